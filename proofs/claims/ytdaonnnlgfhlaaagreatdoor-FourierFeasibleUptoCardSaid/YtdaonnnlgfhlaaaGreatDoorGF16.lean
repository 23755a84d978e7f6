import Derived.Test.YtdaonnnlgfhlaaaGreatDoorGF15
import Derived.Test.YtdaonnnlgfhlaaaGreatDoorGF13
import Derived.Test.YtdaonnnlgfhlaaaGreatDoorGF8
set_option linter.all false
set_option maxRecDepth 100000
namespace Go.Proofs.YtdaonnnlgfhlaaaGreatDoor
section
open Go.RowKit
def livesT:List (Nat × List (Nat × List Nat)):=[(9,[(4,[1,3]),(1000004,[2])]),(13,[(4,[2,3,5]),(1000004,[4])]),(17,[(6,[1,6,7,8,27,28,29,ph 6 0 28 4]),(16,[1,6,8,53,54,55]),(20,[1,6,8,12,13,53,54,55,62,63,64]),(1000006,[1,6,7,8]),(1000016,[6]),(1000020,[1,6,8,53,54,55])]),(18,[(5,[0,1,6,7,8,9]),(16,[1,6,7,8,10]),(19,[1,6,7,8,10,11]),(1000005,[1,4,5,6,7,8]),(1000016,[6]),(1000019,[1,6,7,8,10])]),(19,[(4,[0,1,5]),(1000004,[4])]),(21,[(2,[1,2,5]),(1000002,[2,4])]),(22,[(2,[1,2,4,5]),(1000002,[4])]),(29,[(8,[3,4,6,7,8]),(16,[3,4,7,11,12]),(20,[3,4,7,11,12,13,14]),(1000008,[2,3,4,7]),(1000016,[2,3,4,7]),(1000020,[3,4,7,11,12,13])]),(30,[(9,[2,7,12,13,56,57,58]),(1000009,[6,7,8,12,13])]),(41,[(3,[2,3,4,5,6,ph 5 0 68 4]),(1000003,[4,5])]),(43,[(4,[0,5]),(1000004,[4])]),(44,[(2,[1,7,8,9]),(1000002,[4])]),(45,[(2,[1,4,8,9,10]),(1000002,[4])]),(49,[(5,[0,5,6]),(1000005,[0,4,5])]),(50,[(3,[3,4,5,6]),(1000003,[4,5])]),(54,[(3,[0,1,5,6]),(7,[0,1,5,6,7,8]),(1000003,[5]),(1000007,[0,1,5,6])]),(58,[(2,[0,11,12]),(11,[8,28,29,30,ph 8 0 28 4]),(1000002,[0,4,5]),(1000011,[8])]),(59,[(2,[0,1,5]),(1000002,[1,4])]),(60,[(3,[0,1,6,7]),(7,[1,6,8]),(1000003,[1,6]),(1000007,[4,5,6])]),(63,[(4,[1,2,6,7,8]),(18,[1,6,7,14,15]),(24,[1,6,7,14,16]),(1000004,[1,4,5,6,7]),(1000018,[1,4,5,6,7,14]),(1000024,[6])]),(64,[(3,[0,1,5,6,7]),(1000003,[5,6])]),(65,[(3,[0,1,2,8,9]),(8,[0,1,2,8,10]),(11,[0,1,2,8,10,11]),(16,[0,1,2,8,10,11,12,13]),(1000003,[0,1,2,8]),(1000008,[6,7,8]),(1000011,[0,1,2,6,7,8,10]),(1000016,[0,1,2,8,10,11,12])]),(66,[(4,[0,1,5,6,7,8,9,10,ph 8 1 0 0,ph 8 2 0 0,ph 9 1 0 0,ph 9 2 0 0]),(1000004,[4,5,6,7,8,9])]),(67,[(2,[1,2,8,9,10]),(1000002,[2,4])]),(76,[(6,[1,5,29,30,31]),(10,[1,5,6,7,8,29,30,31,36,37,38]),(1000006,[5]),(1000010,[1,5,6,8,29,30,31])]),(78,[(3,[5,6,7,8,9,ph 7 0 68 4]),(1000003,[6,7])]),(84,[(4,[1,3,4,11,12,13]),(1000004,[1,3,4])]),(86,[(4,[1,3,5,6,7,8,9]),(1000004,[1,3,5,6,7,8])]),(88,[(2,[0,1]),(1000002,[0])]),(89,[(9,[0,1,11,12,13]),(1000009,[11,12])]),(91,[(2,[0,3]),(1000002,[0,3])]),(93,[(1,[0,1]),(1000001,[0])]),(94,[(3,[0,3,4]),(7,[0,3,5]),(1000003,[0,3]),(1000007,[2])]),(95,[(2,[0,3]),(1000002,[3])]),(100,[(3,[0,4,6,7,ph 6 0 0 0]),(1000003,[4,5,6])]),(107,[(2,[0,1]),(10,[11,13]),(1000002,[0,1]),(1000010,[11])]),(108,[(13,[9,10,11,12,13]),(1000013,[9,10,12])]),(109,[(2,[0,3]),(1000002,[0,3])]),(113,[(4,[0,1,5,6,7]),(1000004,[5,6])]),(114,[(6,[0,1,6,7,8]),(1000006,[6])]),(122,[(6,[3,4]),(1000006,[3])]),(123,[(4,[0,1,5,6,7]),(1000004,[5,6])]),(124,[(2,[0,1,5]),(1000002,[4])]),(127,[(7,[0,1,5]),(1000007,[4])]),(131,[(6,[4,12,13,14]),(1000006,[4])]),(132,[(4,[0,1,6,7,8]),(1000004,[6,7])]),(134,[(3,[1,5,13,14,15]),(1000003,[5])]),(135,[(3,[0,1,2,7,8,15,16,17]),(17,[0,1,2,7,70,71,72]),(1000003,[0,1,2,7,8]),(1000017,[0,1,2,7])]),(136,[(4,[0,1,5,7,8]),(1000004,[7])]),(137,[(9,[0,1,6,30,31,32]),(1000009,[6])]),(141,[(5,[0,3,4]),(1000005,[4])]),(147,[(38,[7,8,9]),(1000038,[9])]),(148,[(1,[0,2,3]),(1000001,[])]),(149,[(12,[0,1,5,39,40,41]),(22,[1,8,63,64,65]),(1000012,[0,1,5]),(1000022,[8])]),(152,[(1,[0,1,4]),(1000001,[0,1,4])]),(153,[(11,[0,1,3,4,10,11,12,13,14,15,16]),(18,[0,1,3,4,10,11,12,13,17]),(1000011,[0,1,3,4,10,11,12,13]),(1000018,[0,1,3,4,10,11,12,13])])]
def Za(f:FuncId):Nat→List Nat:=lv ((livesT.lookup f).getD [])
def modesT:List (Nat × (List Bool × Bool)):=[(46,([true,false],false)),(49,([true,false],true)),(81,([true,false],true)),(94,([true],false)),(112,([true,false,false],true)),(115,([false,false,true],false)),(116,([true],false)),(117,([true,false],false)),(120,([true],false)),(135,([true,false,false],false)),(139,([true],false)),(148,([true],false)),(152,([true,false],false)),(153,([true,false,false,false,false],true)),(157,([true,false],false)),(166,([true,false],false))]
noncomputable def Ym(f:FuncId):Func:=(Tryz.prog.funcs[f]?).getD default
def Wc(f:FuncId):Bool:=((modesT.lookup f).getD ([],false)).2
noncomputable def tab:Nat→FuncId→Option Orc
 | 0,f=>Zh9 f
 | n+1,f=>match Zh9 f with
   | some x=>some x
   | none=>match Xy Tryz.prog f with
     | true=>(match modesT.lookup f with
       | some (ms,k)=>some (.lin ms (fnL Tryz.prog (tab n) (Za f) big (Ym f) (Wc f)))
       | none=>some (.pure (fnP Tryz.prog (tab n) (Za f) big (Ym f))))
     | false=>none
theorem VW{f:FuncId}(h:Xy Tryz.prog f=true): Tryz.prog.funcs[f]?=some (Ym f):=by
 unfold Xy at h
 unfold Ym
 split at h
 ·rename_i fn hf;rw [hf];rfl
 ·cases h
theorem Zfq:∀n,OrcOk Tryz.prog (tab n)
 | 0=>orc0_ok
 | n+1=>by
   have key:∀f x,tab (n+1) f=some x→(Zh9 f=some x)∨(Xy Tryz.prog f=true∧((∃(ms:List Bool) (k:Bool),x=.lin ms (fnL Tryz.prog (tab n) (Za f) big (Ym f) (Wc f)))∨x=.pure (fnP Tryz.prog (tab n) (Za f) big (Ym f)))):=fun f x h=>by
    unfold tab at h
    split at h
    ·rename_i y hy;cases h;exact .inl hy
    ·split at h
     ·rename_i hp
      split at h
      ·cases h;exact .inr ⟨hp,.inl ⟨_,false,rfl⟩⟩
      ·cases h;exact .inr ⟨hp,.inr rfl⟩
     ·cases h
   refine ⟨fun f g h=>?_,fun f ms g h=>?_⟩
   ·rcases key f _ h with h|⟨hp,⟨ms,k,h⟩|h⟩
    ·exact orc0_ok.pure f g h
    ·cases h
    ·cases h
     exact ⟨hp,fun args r hr=>ZeN (Zfq n) WW (VW hp) (VX hp (VW hp)) hr⟩
   ·rcases key f _ h with h|⟨hp,⟨ms,k,h⟩|h⟩
    ·exact orc0_ok.lin f ms g h
    ·cases h
     exact ⟨hp,fun bin args r outs hr=>Zsh (Zfq n) WW (VW hp) (VX hp (VW hp)) hr⟩
    ·cases h
noncomputable def run(n:Nat)(f:FuncId)(args:List AV):Option AV:=fnP Tryz.prog (tab n) (Za f) big (Ym f) args
noncomputable def Zp(n:Nat)(f:FuncId)(args:List AV)(bin:List AB):Option (AV × List (Nat × AB)):=fnL Tryz.prog (tab n) (Za f) big (Ym f) (Wc f) args bin
theorem Zu{n:Nat}{f:FuncId}(h0:Zh9 f=none)(hp:Xy Tryz.prog f=true)(hm:modesT.lookup f=none):tab (n+1) f=some (.pure (run n f)):=by
 unfold tab
 rw [h0]
 simp only [hp,hm]
 rfl
theorem Wq{n:Nat}{f:FuncId}{ms:List Bool}{k:Bool}(h0:Zh9 f=none)(hp:Xy Tryz.prog f=true)(hm:modesT.lookup f=some (ms,k)):tab (n+1) f=some (.lin ms (Zp n f)):=by
 unfold tab
 rw [h0]
 simp only [hp,hm]
 rfl
theorem ZI{f:FuncId}{x:Orc}(h:Zh9 f=some x):∀n,tab n f=some x
 | 0=>h
 | n+1=>by unfold tab;rw [h]
@[simp] theorem ZDC:Ym 6= Tryz.f6:=by kernel_rfl
@[simp] theorem ZDo(n:Nat):tab (n+1) 8=some (.pure (run n 8)):=Zu (by kernel_rfl) (by kernel_rfl) (by kernel_rfl)
@[simp] theorem ZDq:Ym 9= Tryz.f9:=by kernel_rfl
@[simp] theorem ZAO:Za 9 4=[1,3]:=by kernel_rfl
@[simp] theorem ZsY:Za 9 1000004=[2]:=by kernel_rfl
@[simp] theorem ZDr(n:Nat):tab (n+1) 9=some (.pure (run n 9)):=Zu (by kernel_rfl) (by kernel_rfl) (by kernel_rfl)
@[simp] theorem ZBF:Ym 11= Tryz.f11:=by kernel_rfl
@[simp] theorem ZB5(n:Nat):tab (n+1) 11=some (.pure (run n 11)):=Zu (by kernel_rfl) (by kernel_rfl) (by kernel_rfl)
@[simp] theorem ZCY:Ym 13= Tryz.f13:=by kernel_rfl
@[simp] theorem ZzP:Za 13 4=[2,3,5]:=by kernel_rfl
@[simp] theorem ZqD:Za 13 1000004=[4]:=by kernel_rfl
@[simp] theorem ZCw(n:Nat):tab (n+1) 13=some (.pure (run n 13)):=Zu (by kernel_rfl) (by kernel_rfl) (by kernel_rfl)
@[simp] theorem ZDb:Ym 14= Tryz.f14:=by kernel_rfl
@[simp] theorem ZB2(n:Nat):tab (n+1) 14=some (.pure (run n 14)):=Zu (by kernel_rfl) (by kernel_rfl) (by kernel_rfl)
@[simp] theorem ZBU:Ym 16= Tryz.f16:=by kernel_rfl
@[simp] theorem ZCM(n:Nat):tab (n+1) 16=some (.pure (run n 16)):=Zu (by kernel_rfl) (by kernel_rfl) (by kernel_rfl)
@[simp] theorem ZCI:Ym 17= Tryz.f17:=by kernel_rfl
@[simp] theorem Zy7:Za 17 6=[1,6,7,8,27,28,29,ph 6 0 28 4]:=by kernel_rfl
@[simp] theorem Zxx:Za 17 16=[1,6,8,53,54,55]:=by kernel_rfl
@[simp] theorem ZyD:Za 17 20=[1,6,8,12,13,53,54,55,62,63,64]:=by kernel_rfl
@[simp] theorem ZqT:Za 17 1000006=[1,6,7,8]:=by kernel_rfl
@[simp] theorem ZqS:Za 17 1000016=[6]:=by kernel_rfl
@[simp] theorem Zqw:Za 17 1000020=[1,6,8,53,54,55]:=by kernel_rfl
@[simp] theorem ZDa(n:Nat):tab (n+1) 17=some (.pure (run n 17)):=Zu (by kernel_rfl) (by kernel_rfl) (by kernel_rfl)
@[simp] theorem ZBz:Ym 18= Tryz.f18:=by kernel_rfl
@[simp] theorem Zz3:Za 18 5=[0,1,6,7,8,9]:=by kernel_rfl
@[simp] theorem ZxQ:Za 18 16=[1,6,7,8,10]:=by kernel_rfl
@[simp] theorem ZyC:Za 18 19=[1,6,7,8,10,11]:=by kernel_rfl
@[simp] theorem ZqB:Za 18 1000005=[1,4,5,6,7,8]:=by kernel_rfl
@[simp] theorem Zqq:Za 18 1000016=[6]:=by kernel_rfl
@[simp] theorem ZqO:Za 18 1000019=[1,6,7,8,10]:=by kernel_rfl
@[simp] theorem ZBN(n:Nat):tab (n+1) 18=some (.pure (run n 18)):=Zu (by kernel_rfl) (by kernel_rfl) (by kernel_rfl)
@[simp] theorem ZBX:Ym 21= Tryz.f21:=by kernel_rfl
@[simp] theorem ZzG:Za 21 2=[1,2,5]:=by kernel_rfl
@[simp] theorem ZqC:Za 21 1000002=[2,4]:=by kernel_rfl
@[simp] theorem ZCS(n:Nat):tab (n+1) 21=some (.pure (run n 21)):=Zu (by kernel_rfl) (by kernel_rfl) (by kernel_rfl)
@[simp] theorem ZB6:Ym 22= Tryz.f22:=by kernel_rfl
@[simp] theorem Zzr:Za 22 2=[1,2,4,5]:=by kernel_rfl
@[simp] theorem Zqm:Za 22 1000002=[4]:=by kernel_rfl
@[simp] theorem ZCv(n:Nat):tab (n+1) 22=some (.pure (run n 22)):=Zu (by kernel_rfl) (by kernel_rfl) (by kernel_rfl)
@[simp] theorem ZCF:Ym 23= Tryz.f23:=by kernel_rfl
@[simp] theorem ZCy(n:Nat):tab (n+1) 23=some (.pure (run n 23)):=Zu (by kernel_rfl) (by kernel_rfl) (by kernel_rfl)
@[simp] theorem ZBx:Ym 27= Tryz.f27:=by kernel_rfl
@[simp] theorem ZCz(n:Nat):tab (n+1) 27=some (.pure (run n 27)):=Zu (by kernel_rfl) (by kernel_rfl) (by kernel_rfl)
@[simp] theorem ZCj:Ym 28= Tryz.f28:=by kernel_rfl
@[simp] theorem ZCH(n:Nat):tab (n+1) 28=some (.pure (run n 28)):=Zu (by kernel_rfl) (by kernel_rfl) (by kernel_rfl)
@[simp] theorem ZBY:Ym 29= Tryz.f29:=by kernel_rfl
@[simp] theorem Zzf:Za 29 8=[3,4,6,7,8]:=by kernel_rfl
@[simp] theorem Zw7:Za 29 16=[3,4,7,11,12]:=by kernel_rfl
@[simp] theorem Zw5:Za 29 20=[3,4,7,11,12,13,14]:=by kernel_rfl
@[simp] theorem Zqx:Za 29 1000008=[2,3,4,7]:=by kernel_rfl
@[simp] theorem Zqo:Za 29 1000016=[2,3,4,7]:=by kernel_rfl
@[simp] theorem Zqs:Za 29 1000020=[3,4,7,11,12,13]:=by kernel_rfl
@[simp] theorem ZBV(n:Nat):tab (n+1) 29=some (.pure (run n 29)):=Zu (by kernel_rfl) (by kernel_rfl) (by kernel_rfl)
@[simp] theorem ZDk:Ym 33= Tryz.f33:=by kernel_rfl
@[simp] theorem ZCA(n:Nat):tab (n+1) 33=some (.pure (run n 33)):=Zu (by kernel_rfl) (by kernel_rfl) (by kernel_rfl)
@[simp] theorem ZBy:Ym 36= Tryz.f36:=by kernel_rfl
@[simp] theorem ZDd(n:Nat):tab (n+1) 36=some (.pure (run n 36)):=Zu (by kernel_rfl) (by kernel_rfl) (by kernel_rfl)
@[simp] theorem ZCs:Ym 37= Tryz.f37:=by kernel_rfl
@[simp] theorem ZCN(n:Nat):tab (n+1) 37=some (.pure (run n 37)):=Zu (by kernel_rfl) (by kernel_rfl) (by kernel_rfl)
@[simp] theorem ZCV:Ym 41= Tryz.f41:=by kernel_rfl
@[simp] theorem Zz1:Za 41 3=[2,3,4,5,6,ph 5 0 68 4]:=by kernel_rfl
@[simp] theorem ZqH:Za 41 1000003=[4,5]:=by kernel_rfl
@[simp] theorem ZB3(n:Nat):tab (n+1) 41=some (.pure (run n 41)):=Zu (by kernel_rfl) (by kernel_rfl) (by kernel_rfl)
@[simp] theorem ZCt:Ym 43= Tryz.f43:=by kernel_rfl
@[simp] theorem ZzU:Za 43 4=[0,5]:=by kernel_rfl
@[simp] theorem ZqI:Za 43 1000004=[4]:=by kernel_rfl
@[simp] theorem ZBv(n:Nat):tab (n+1) 43=some (.pure (run n 43)):=Zu (by kernel_rfl) (by kernel_rfl) (by kernel_rfl)
@[simp] theorem ZBQ:Ym 44= Tryz.f44:=by kernel_rfl
@[simp] theorem ZzN:Za 44 2=[1,7,8,9]:=by kernel_rfl
@[simp] theorem Zq0:Za 44 1000002=[4]:=by kernel_rfl
@[simp] theorem ZCq(n:Nat):tab (n+1) 44=some (.pure (run n 44)):=Zu (by kernel_rfl) (by kernel_rfl) (by kernel_rfl)
@[simp] theorem ZBT:Ym 45= Tryz.f45:=by kernel_rfl
@[simp] theorem Zy8:Za 45 2=[1,4,8,9,10]:=by kernel_rfl
@[simp] theorem Zqr:Za 45 1000002=[4]:=by kernel_rfl
@[simp] theorem ZB8(n:Nat):tab (n+1) 45=some (.pure (run n 45)):=Zu (by kernel_rfl) (by kernel_rfl) (by kernel_rfl)
@[simp] theorem ZC3:Ym 46= Tryz.f46:=by kernel_rfl
@[simp] theorem ZBA(n:Nat):tab (n+1) 46=some (.lin [true,false] (Zp n 46)):=Wq (k:=false) (by kernel_rfl) (by kernel_rfl) (by kernel_rfl)
@[simp] theorem ZCd:Wc 46=false:=by kernel_rfl
@[simp] theorem ZCJ:Ym 48= Tryz.f48:=by kernel_rfl
@[simp] theorem ZBt(n:Nat):tab (n+1) 48=some (.pure (run n 48)):=Zu (by kernel_rfl) (by kernel_rfl) (by kernel_rfl)
@[simp] theorem ZC9:Ym 49= Tryz.f49:=by kernel_rfl
@[simp] theorem Zzl:Za 49 5=[0,5,6]:=by kernel_rfl
@[simp] theorem ZqM:Za 49 1000005=[0,4,5]:=by kernel_rfl
@[simp] theorem ZBH(n:Nat):tab (n+1) 49=some (.lin [true,false] (Zp n 49)):=Wq (k:=true) (by kernel_rfl) (by kernel_rfl) (by kernel_rfl)
@[simp] theorem ZBL:Wc 49=true:=by kernel_rfl
@[simp] theorem ZDg:Ym 50= Tryz.f50:=by kernel_rfl
@[simp] theorem ZzM:Za 50 3=[3,4,5,6]:=by kernel_rfl
@[simp] theorem ZqE:Za 50 1000003=[4,5]:=by kernel_rfl
@[simp] theorem ZC0(n:Nat):tab (n+1) 50=some (.pure (run n 50)):=Zu (by kernel_rfl) (by kernel_rfl) (by kernel_rfl)
@[simp] theorem ZCE(n:Nat):tab (n+1) 53=some (.pure (oQt)):=ZI rfl _
@[simp] theorem ZCb(n:Nat):tab (n+1) 54=some (.pure (oN2 fun x y=>Zc (lmb (val x*val y)))):=ZI rfl _
@[simp] theorem ZBP(n:Nat):tab (n+1) 55=some (.pure (oN1 (fun _=>true) fun x=>Zc (lmb (dn x)))):=ZI rfl _
@[simp] theorem ZBI:Ym 58= Tryz.f58:=by kernel_rfl
@[simp] theorem Zzh:Za 58 2=[0,11,12]:=by kernel_rfl
@[simp] theorem Zxo:Za 58 11=[8,28,29,30,ph 8 0 28 4]:=by kernel_rfl
@[simp] theorem ZqZ:Za 58 1000002=[0,4,5]:=by kernel_rfl
@[simp] theorem Zqn:Za 58 1000011=[8]:=by kernel_rfl
@[simp] theorem ZCn(n:Nat):tab (n+1) 58=some (.pure (run n 58)):=Zu (by kernel_rfl) (by kernel_rfl) (by kernel_rfl)
@[simp] theorem ZC7:Ym 59= Tryz.f59:=by kernel_rfl
@[simp] theorem ZzT:Za 59 2=[0,1,5]:=by kernel_rfl
@[simp] theorem Zqv:Za 59 1000002=[1,4]:=by kernel_rfl
@[simp] theorem ZCc(n:Nat):tab (n+1) 59=some (.pure (run n 59)):=Zu (by kernel_rfl) (by kernel_rfl) (by kernel_rfl)
@[simp] theorem ZBS:Ym 60= Tryz.f60:=by kernel_rfl
@[simp] theorem ZzI:Za 60 3=[0,1,6,7]:=by kernel_rfl
@[simp] theorem ZzA:Za 60 7=[1,6,8]:=by kernel_rfl
@[simp] theorem ZqG:Za 60 1000003=[1,6]:=by kernel_rfl
@[simp] theorem ZqA:Za 60 1000007=[4,5,6]:=by kernel_rfl
@[simp] theorem ZCu(n:Nat):tab (n+1) 60=some (.pure (run n 60)):=Zu (by kernel_rfl) (by kernel_rfl) (by kernel_rfl)
@[simp] theorem ZCo:Ym 61= Tryz.f61:=by kernel_rfl
@[simp] theorem ZCg(n:Nat):tab (n+1) 61=some (.pure (run n 61)):=Zu (by kernel_rfl) (by kernel_rfl) (by kernel_rfl)
@[simp] theorem ZDi:Ym 62= Tryz.f62:=by kernel_rfl
@[simp] theorem ZBE(n:Nat):tab (n+1) 62=some (.pure (run n 62)):=Zu (by kernel_rfl) (by kernel_rfl) (by kernel_rfl)
@[simp] theorem ZCD:Ym 63= Tryz.f63:=by kernel_rfl
@[simp] theorem ZzH:Za 63 4=[1,2,6,7,8]:=by kernel_rfl
@[simp] theorem ZyV:Za 63 18=[1,6,7,14,15]:=by kernel_rfl
@[simp] theorem Zw8:Za 63 24=[1,6,7,14,16]:=by kernel_rfl
@[simp] theorem ZqR:Za 63 1000004=[1,4,5,6,7]:=by kernel_rfl
@[simp] theorem ZqN:Za 63 1000018=[1,4,5,6,7,14]:=by kernel_rfl
@[simp] theorem ZqL:Za 63 1000024=[6]:=by kernel_rfl
@[simp] theorem ZB0(n:Nat):tab (n+1) 63=some (.pure (run n 63)):=Zu (by kernel_rfl) (by kernel_rfl) (by kernel_rfl)
@[simp] theorem ZBZ:Ym 64= Tryz.f64:=by kernel_rfl
@[simp] theorem ZzV:Za 64 3=[0,1,5,6,7]:=by kernel_rfl
@[simp] theorem ZqK:Za 64 1000003=[5,6]:=by kernel_rfl
@[simp] theorem ZCX(n:Nat):tab (n+1) 64=some (.pure (run n 64)):=Zu (by kernel_rfl) (by kernel_rfl) (by kernel_rfl)
@[simp] theorem ZC1:Ym 65= Tryz.f65:=by kernel_rfl
@[simp] theorem ZzO:Za 65 3=[0,1,2,8,9]:=by kernel_rfl
@[simp] theorem ZzJ:Za 65 8=[0,1,2,8,10]:=by kernel_rfl
@[simp] theorem Zyp:Za 65 11=[0,1,2,8,10,11]:=by kernel_rfl
@[simp] theorem ZyR:Za 65 16=[0,1,2,8,10,11,12,13]:=by kernel_rfl
@[simp] theorem ZqV:Za 65 1000003=[0,1,2,8]:=by kernel_rfl
@[simp] theorem Zqy:Za 65 1000008=[6,7,8]:=by kernel_rfl
@[simp] theorem ZqY:Za 65 1000011=[0,1,2,6,7,8,10]:=by kernel_rfl
@[simp] theorem Zqu:Za 65 1000016=[0,1,2,8,10,11,12]:=by kernel_rfl
@[simp] theorem ZB4(n:Nat):tab (n+1) 65=some (.pure (run n 65)):=Zu (by kernel_rfl) (by kernel_rfl) (by kernel_rfl)
@[simp] theorem ZCO:Ym 66= Tryz.f66:=by kernel_rfl
@[simp] theorem ZAc:Za 66 4=[0,1,5,6,7,8,9,10,ph 8 1 0 0,ph 8 2 0 0,ph 9 1 0 0,ph 9 2 0 0]:=by kernel_rfl
@[simp] theorem ZqJ:Za 66 1000004=[4,5,6,7,8,9]:=by kernel_rfl
@[simp] theorem ZCW(n:Nat):tab (n+1) 66=some (.pure (run n 66)):=Zu (by kernel_rfl) (by kernel_rfl) (by kernel_rfl)
@[simp] theorem ZCR:Ym 67= Tryz.f67:=by kernel_rfl
@[simp] theorem Zzn:Za 67 2=[1,2,8,9,10]:=by kernel_rfl
@[simp] theorem ZqQ:Za 67 1000002=[2,4]:=by kernel_rfl
@[simp] theorem ZBM(n:Nat):tab (n+1) 67=some (.pure (run n 67)):=Zu (by kernel_rfl) (by kernel_rfl) (by kernel_rfl)
@[simp] theorem ZBR:Ym 68= Tryz.f68:=by kernel_rfl
@[simp] theorem ZCZ(n:Nat):tab (n+1) 75=some (.pure (oQt)):=ZI rfl _
@[simp] theorem ZCx(n:Nat):tab (n+1) 76=some (.pure (oN2 fun x y=>Zc (lmb (val x*val y)))):=ZI rfl _
@[simp] theorem ZBG(n:Nat):tab (n+1) 77=some (.pure (o1 fun x=>Zc (unL x.l2))):=ZI rfl _
@[simp] theorem ZDh:Ym 78= Tryz.f78:=by kernel_rfl
@[simp] theorem Zzm:Za 78 3=[5,6,7,8,9,ph 7 0 68 4]:=by kernel_rfl
@[simp] theorem ZqX:Za 78 1000003=[6,7]:=by kernel_rfl
@[simp] theorem ZCa(n:Nat):tab (n+1) 78=some (.pure (run n 78)):=Zu (by kernel_rfl) (by kernel_rfl) (by kernel_rfl)
@[simp] theorem ZCm:Ym 81= Tryz.f81:=by kernel_rfl
@[simp] theorem ZCL(n:Nat):tab (n+1) 81=some (.lin [true,false] (Zp n 81)):=Wq (k:=true) (by kernel_rfl) (by kernel_rfl) (by kernel_rfl)
@[simp] theorem ZBB:Wc 81=true:=by kernel_rfl
@[simp] theorem ZCe:Ym 83= Tryz.f83:=by kernel_rfl
@[simp] theorem ZCp(n:Nat):tab (n+1) 83=some (.pure (run n 83)):=Zu (by kernel_rfl) (by kernel_rfl) (by kernel_rfl)
@[simp] theorem ZC4:Ym 84= Tryz.f84:=by kernel_rfl
@[simp] theorem ZzF:Za 84 4=[1,3,4,11,12,13]:=by kernel_rfl
@[simp] theorem Zqz:Za 84 1000004=[1,3,4]:=by kernel_rfl
@[simp] theorem ZBO(n:Nat):tab (n+1) 84=some (.pure (run n 84)):=Zu (by kernel_rfl) (by kernel_rfl) (by kernel_rfl)
@[simp] theorem ZCk:Ym 86= Tryz.f86:=by kernel_rfl
@[simp] theorem Zz8:Za 86 4=[1,3,5,6,7,8,9]:=by kernel_rfl
@[simp] theorem Zqt:Za 86 1000004=[1,3,5,6,7,8]:=by kernel_rfl
@[simp] theorem ZCh(n:Nat):tab (n+1) 86=some (.pure (run n 86)):=Zu (by kernel_rfl) (by kernel_rfl) (by kernel_rfl)
@[simp] theorem ZCl(n:Nat):tab (n+1) 87=some (.pure (oU fun k=>Zc (lmb k))):=ZI rfl _
@[simp] theorem ZCr(n:Nat):tab (n+1) 89=some (.pure (oND fun x y=>.tup [Zc (lmb (val x / val y)),Zc (lmb (val x % val y)),.lit (.int .i64 0)])):=ZI rfl _
@[simp] theorem ZB9(n:Nat):tab (n+1) 91=some (.pure (oN1 (fun _=>true) fun x=>Zc (lmb (val x)))):=ZI rfl _
@[simp] theorem ZBu:Ym 92= Tryz.f92:=by kernel_rfl
@[simp] theorem ZC6(n:Nat):tab (n+1) 92=some (.pure (run n 92)):=Zu (by kernel_rfl) (by kernel_rfl) (by kernel_rfl)
@[simp] theorem ZDf:Ym 93= Tryz.f93:=by kernel_rfl
@[simp] theorem Zz0:Za 93 1=[0,1]:=by kernel_rfl
@[simp] theorem ZqF:Za 93 1000001=[0]:=by kernel_rfl
@[simp] theorem ZDj(n:Nat):tab (n+1) 93=some (.pure (run n 93)):=Zu (by kernel_rfl) (by kernel_rfl) (by kernel_rfl)
@[simp] theorem ZCP:Ym 94= Tryz.f94:=by kernel_rfl
@[simp] theorem Zze:Za 94 3=[0,3,4]:=by kernel_rfl
@[simp] theorem Zz5:Za 94 7=[0,3,5]:=by kernel_rfl
@[simp] theorem ZqU:Za 94 1000003=[0,3]:=by kernel_rfl
@[simp] theorem ZqW:Za 94 1000007=[2]:=by kernel_rfl
@[simp] theorem ZBD(n:Nat):tab (n+1) 94=some (.lin [true] (Zp n 94)):=Wq (k:=false) (by kernel_rfl) (by kernel_rfl) (by kernel_rfl)
@[simp] theorem ZC8:Wc 94=false:=by kernel_rfl
@[simp] theorem ZCU:Ym 95= Tryz.f95:=by kernel_rfl
@[simp] theorem Zy6:Za 95 2=[0,3]:=by kernel_rfl
@[simp] theorem ZqP:Za 95 1000002=[3]:=by kernel_rfl
@[simp] theorem ZBW(n:Nat):tab (n+1) 95=some (.pure (run n 95)):=Zu (by kernel_rfl) (by kernel_rfl) (by kernel_rfl)
@[simp] theorem ZA1(n:Nat):tab (n+1) 102=some (.pure (oU fun k=>Zc (lmb k))):=ZI rfl _
@[simp] theorem ZAI(n:Nat):tab (n+1) 105=some (.pure (oN1 (fun _=>true) fun x=>Zc (lmb (val x)))):=ZI rfl _
@[simp] theorem ZA5(n:Nat):tab (n+1) 108=some (.pure (oND fun x y=>.tup [Zc (lmb (val x / val y)),Zc (lmb (val x % val y)),.lit (.int .i64 0)])):=ZI rfl _
@[simp] theorem ZAX:Ym 112= Tryz.f112:=by kernel_rfl
@[simp] theorem ZBr(n:Nat):tab (n+1) 112=some (.lin [true,false,false] (Zp n 112)):=Wq (k:=true) (by kernel_rfl) (by kernel_rfl) (by kernel_rfl)
@[simp] theorem ZBh:Wc 112=true:=by kernel_rfl
@[simp] theorem ZBj(n:Nat):tab (n+1) 113=some (.pure (oN2 fun x y=>Zc (lmb (val x+val y)))):=ZI rfl _
@[simp] theorem ZBm:Ym 115= Tryz.f115:=by kernel_rfl
@[simp] theorem ZBa(n:Nat):tab (n+1) 115=some (.lin [false,false,true] (Zp n 115)):=Wq (k:=false) (by kernel_rfl) (by kernel_rfl) (by kernel_rfl)
@[simp] theorem ZAK:Wc 115=false:=by kernel_rfl
@[simp] theorem ZBe:Ym 116= Tryz.f116:=by kernel_rfl
@[simp] theorem ZA2(n:Nat):tab (n+1) 116=some (.lin [true] (Zp n 116)):=Wq (k:=false) (by kernel_rfl) (by kernel_rfl) (by kernel_rfl)
@[simp] theorem ZAw:Wc 116=false:=by kernel_rfl
@[simp] theorem ZAU:Ym 117= Tryz.f117:=by kernel_rfl
@[simp] theorem ZAZ(n:Nat):tab (n+1) 117=some (.lin [true,false] (Zp n 117)):=Wq (k:=false) (by kernel_rfl) (by kernel_rfl) (by kernel_rfl)
@[simp] theorem ZAl:Wc 117=false:=by kernel_rfl
@[simp] theorem ZBp(n:Nat):tab (n+1) 118=some (.pure (UX)):=ZI rfl _
@[simp] theorem ZAC:Ym 119= Tryz.f119:=by kernel_rfl
@[simp] theorem ZAP(n:Nat):tab (n+1) 119=some (.pure (run n 119)):=Zu (by kernel_rfl) (by kernel_rfl) (by kernel_rfl)
@[simp] theorem ZBd:Ym 120= Tryz.f120:=by kernel_rfl
@[simp] theorem ZBl(n:Nat):tab (n+1) 120=some (.lin [true] (Zp n 120)):=Wq (k:=false) (by kernel_rfl) (by kernel_rfl) (by kernel_rfl)
@[simp] theorem ZBb:Wc 120=false:=by kernel_rfl
@[simp] theorem ZA6(n:Nat):tab (n+1) 121=some (.pure (oN1 Zdx fun x=>.tup [.lit (.int .u64 (val x:Nat)),.lit (.bool true)])):=ZI rfl _
@[simp] theorem ZAo(n:Nat):tab (n+1) 131=some (.pure (oN1 Zdx fun x=>.tup [.lit (.int .u64 (val x:Nat)),.lit (.bool true)])):=ZI rfl _
@[simp] theorem ZAq(n:Nat):tab (n+1) 139=some (.lin [true] ccG):=ZI rfl _
@[simp] theorem ZAN:Ym 141= Tryz.f141:=by kernel_rfl
@[simp] theorem ZxZ:Za 141 5=[0,3,4]:=by kernel_rfl
@[simp] theorem ZnU:Za 141 1000005=[4]:=by kernel_rfl
@[simp] theorem ZBk(n:Nat):tab (n+1) 141=some (.pure (run n 141)):=Zu (by kernel_rfl) (by kernel_rfl) (by kernel_rfl)
@[simp] theorem ZBi(n:Nat):tab (n+1) 146=some (.pure (oFU)):=ZI rfl _
@[simp] theorem ZA3(n:Nat):tab (n+1) 147=some (.pure (UO)):=ZI rfl _
@[simp] theorem ZAD:Ym 148= Tryz.f148:=by kernel_rfl
@[simp] theorem Zyb:Za 148 1=[0,2,3]:=by kernel_rfl
@[simp] theorem Zoa:Za 148 1000001=[]:=by kernel_rfl
@[simp] theorem ZAW(n:Nat):tab (n+1) 148=some (.lin [true] (Zp n 148)):=Wq (k:=false) (by kernel_rfl) (by kernel_rfl) (by kernel_rfl)
@[simp] theorem ZBf:Wc 148=false:=by kernel_rfl
@[simp] theorem ZAT(n:Nat):tab (n+1) 149=some (.pure (ZcX)):=ZI rfl _
end
section
open Go.RowKit
def Zn9(q:Rat):List AV:=[.lit (.bool (Zd q).s),Zc (Zd q).l1,Zc (Zd q).l2]
def Zr(t:Int × Rat):List AV:=[.lit (.int .i64 t.1),.lit (.bool (Zd t.2).s),Zc (Zd t.2).l1,Zc (Zd t.2).l2]
abbrev Zf:=List (Int × Rat) × Rat
def Zh(f:Zf):List AV:=[.sl 4 (f.1.map Zr),.lit (.bool (Zd f.2).s),Zc (Zd f.2).l1,Zc (Zd f.2).l2]
theorem ZD{n b:Nat}(h:n≤100000000)(hb:b≤10000):ZU n b=true:=by
 unfold ZU
 have:n*b≤100000000*10000:=Nat.mul_le_mul h hb
 rw [Bool.and_eq_true]
 exact ⟨decide_eq_true (by omega),decide_eq_true (by omega)⟩
theorem ZvY{F:Raw→AV}{q:Rat}(h:H q≤17179869184):o1 F [Xn q]=some (F (Zd q)):=by
 have h1:(Zd q).few=true:=by
  have a1:(lmb q.num.natAbs).length≤H q:=Nat.le_max_left _ _
  have a2:(QL q.den).length≤H q:=Nat.le_trans (Zc2 _) (Nat.le_max_right _ _)
  unfold Raw.few Zd
  rw [Bool.and_eq_true]
  exact ⟨Nat.ble_eq_true_of_le (by dsimp only;omega),Nat.ble_eq_true_of_le (by dsimp only;omega)⟩
 simp only [o1,ZfH,h1,if_true]
theorem ZuC{F:Raw→Raw→AV}{p q:Rat}(hp:H p≤17179869184)(hq:H q≤17179869184):o2 F [Xn p,Xn q]=some (F (Zd p) (Zd q)):=by
 have few:∀{q:Rat},H q≤17179869184→(Zd q).few=true:=fun {q} h=>by
  have a1:(lmb q.num.natAbs).length≤H q:=Nat.le_max_left _ _
  have a2:(QL q.den).length≤H q:=Nat.le_trans (Zc2 _) (Nat.le_max_right _ _)
  unfold Raw.few Zd
  rw [Bool.and_eq_true]
  exact ⟨Nat.ble_eq_true_of_le (by dsimp only;omega),Nat.ble_eq_true_of_le (by dsimp only;omega)⟩
 simp only [o2,ZfH,few hp,few hq,Bool.and_self,if_true]
theorem ZeR{F:Raw→AV}{q:Rat}(h:H q≤17179869184):o1 F [.agg [.lit (.bool (Zd q).s),Zc (Zd q).l1,Zc (Zd q).l2]]=some (F (Zd q)):=ZvY h
theorem ZeJ{F:Raw→Raw→AV}{p q:Rat}(hp:H p≤17179869184)(hq:H q≤17179869184):o2 F [.agg [.lit (.bool (Zd p).s),Zc (Zd p).l1,Zc (Zd p).l2],.agg [.lit (.bool (Zd q).s),Zc (Zd q).l1,Zc (Zd q).l2]]=some (F (Zd p) (Zd q)):=ZuC hp hq
noncomputable def ZrN:List AV→Option AV:=o2 fun x y=>Xn (x.q+y.q)
@[simp] theorem ZAG(n:Nat):tab n 38=some (.pure ZrN):=ZI rfl n
@[simp] theorem Zy4(n:Nat):tab n 110=some (.pure ZrN):=ZI rfl n
noncomputable def ZyM:List AV→Option AV:=o2 fun x y=>Xn (x.q-y.q)
@[simp] theorem ZAr(n:Nat):tab n 57=some (.pure ZyM):=ZI rfl n
noncomputable def Ztf:List AV→Option AV:=o2 fun x y=>Xn (x.q*y.q)
@[simp] theorem ZAs(n:Nat):tab n 39=some (.pure Ztf):=ZI rfl n
@[simp] theorem Zz6(n:Nat):tab n 111=some (.pure Ztf):=ZI rfl n
noncomputable def Ztg:List AV→Option AV:=o1 fun x=>Xn (-x.q)
@[simp] theorem ZAA(n:Nat):tab n 24=some (.pure Ztg):=ZI rfl n
@[simp] theorem Zzi(n:Nat):tab n 47=some (.pure Ztg):=ZI rfl n
noncomputable def ZeD:List AV→Option AV:=o1 fun x=>Xn x.q
@[simp] theorem ZyW(n:Nat):tab n 56=some (.pure ZeD):=ZI rfl n
@[simp] theorem ZwX(n:Nat):tab n 85=some (.pure ZeD):=ZI rfl n
noncomputable def ZgK:List AV→Option AV:=o1 fun x=>.lit (.int .i64 (sgR x.q))
@[simp] theorem ZzS(n:Nat):tab n 15=some (.pure ZgK):=ZI rfl n
@[simp] theorem ZyF(n:Nat):tab n 35=some (.pure ZgK):=ZI rfl n
noncomputable def Zsj:List AV→Option AV:=o2 fun x y=>.lit (.int .i64 (sgR (x.q-y.q)))
@[simp] theorem ZAF(n:Nat):tab n 25=some (.pure Zsj):=ZI rfl n
@[simp] theorem ZzK(n:Nat):tab n 69=some (.pure Zsj):=ZI rfl n
noncomputable def Znm:List AV→Option AV:=o2 fun x y=>.lit (.bool (decide (x.s=y.s∧x.l1=y.l1∧x.l2=y.l2)))
@[simp] theorem ZzB(n:Nat):tab n 40=some (.pure Znm):=ZI rfl n
noncomputable def Zdh:List AV→Option AV:=o1 fun x=>.lit (.bool (decide (QO x.s x.l1 x.l2)))
@[simp] theorem Zya(n:Nat):tab n 52=some (.pure Zdh):=ZI rfl n
@[simp] theorem ZwO(n:Nat):tab n 97=some (.pure Zdh):=ZI rfl n
noncomputable def fOf:List AV→Option AV:=oZ fun z=>Xn (z:Rat)
@[simp] theorem ZCi(n:Nat):tab n 20=some (.pure fOf):=ZI rfl n
@[simp] theorem ZAm(n:Nat):tab n 34=some (.pure fOf):=ZI rfl n
noncomputable def ZtL:List AV→Option AV:=oZZ fun x y=>.tup [Xn ((x:Rat) / (y:Rat)),.lit (.int .i64 0)]
@[simp] theorem ZAf(n:Nat):tab n 96=some (.pure ZtL):=ZI rfl n
theorem Zel{p q:Rat}(hp:H p≤17179869184)(hq:H q≤17179869184):ZrN [.agg [.lit (.bool (Zd p).s),Zc (Zd p).l1,Zc (Zd p).l2],.agg [.lit (.bool (Zd q).s),Zc (Zd q).l1,Zc (Zd q).l2]]=some (.agg [.lit (.bool (Zd (p+q)).s),Zc (Zd (p+q)).l1,Zc (Zd (p+q)).l2]):=by unfold ZrN;rw [ZeJ hp hq,Qr,Qr];rfl
theorem Js{p q:Rat}(hp:H p≤17179869184)(hq:H q≤17179869184):Ztf [.agg [.lit (.bool (Zd p).s),Zc (Zd p).l1,Zc (Zd p).l2],.agg [.lit (.bool (Zd q).s),Zc (Zd q).l1,Zc (Zd q).l2]]=some (.agg [.lit (.bool (Zd (p*q)).s),Zc (Zd (p*q)).l1,Zc (Zd (p*q)).l2]):=by unfold Ztf;rw [ZeJ hp hq,Qr,Qr];rfl
theorem ZdF{p q:Rat}(hp:H p≤17179869184)(hq:H q≤17179869184):Zsj [.agg [.lit (.bool (Zd p).s),Zc (Zd p).l1,Zc (Zd p).l2],.agg [.lit (.bool (Zd q).s),Zc (Zd q).l1,Zc (Zd q).l2]]=some (.lit (.int .i64 (sgR (p-q)))):=by unfold Zsj;rw [ZeJ hp hq,Qr,Qr]
theorem ZfX{p:Rat}(hp:H p≤17179869184):Ztg [.agg [.lit (.bool (Zd p).s),Zc (Zd p).l1,Zc (Zd p).l2]]=some (.agg [.lit (.bool (Zd (-p)).s),Zc (Zd (-p)).l1,Zc (Zd (-p)).l2]):=by unfold Ztg;rw [ZeR hp,Qr];rfl
theorem Zat{p:Rat}(hp:H p≤17179869184):ZeD [.agg [.lit (.bool (Zd p).s),Zc (Zd p).l1,Zc (Zd p).l2]]=some (.agg [.lit (.bool (Zd p).s),Zc (Zd p).l1,Zc (Zd p).l2]):=by unfold ZeD;rw [ZeR hp,Qr];rfl
theorem YA{p:Rat}(hp:H p≤17179869184):ZgK [.agg [.lit (.bool (Zd p).s),Zc (Zd p).l1,Zc (Zd p).l2]]=some (.lit (.int .i64 (sgR p))):=by unfold ZgK;rw [ZeR hp,Qr]
theorem Zpo{p q:Rat}(h:Zd p=Zd q):p=q:=by rw [←Qr p,h,Qr]
theorem Zcv{p q:Rat}(hp:H p≤17179869184)(hq:H q≤17179869184):Znm [.agg [.lit (.bool (Zd p).s),Zc (Zd p).l1,Zc (Zd p).l2],.agg [.lit (.bool (Zd q).s),Zc (Zd q).l1,Zc (Zd q).l2]]=some (.lit (.bool (decide (p=q)))):=by
 unfold Znm
 rw [ZeJ hp hq]
 have:(decide ((Zd p).s=(Zd q).s∧(Zd p).l1=(Zd q).l1∧(Zd p).l2=(Zd q).l2))=decide (p=q):=by
  apply decide_eq_decide.2
  constructor
  ·intro ⟨h1,h2,h3⟩
   apply Zpo
   generalize Zd p=a at*
   generalize Zd q=b at*
   obtain ⟨_,_,_⟩:=a
   obtain ⟨_,_,_⟩:=b
   simp_all
  ·intro h;subst h;exact ⟨rfl,rfl,rfl⟩
 rw [this]
theorem ZAV{z:Int}(h1:-9223372036854775808≤z)(h2:z≤9223372036854775807):fOf [.lit (.int .i64 z)]=some (.agg [.lit (.bool (Zd (z:Rat)).s),Zc (Zd (z:Rat)).l1,Zc (Zd (z:Rat)).l2]):=if_pos ⟨h1,h2⟩
end
section
open Go.RowKit
@[simp] theorem z0s:(Zd 0).s=false:=rfl
@[simp] theorem z0n:Zc (Zd 0).l1=.sl 1 []:=by
  have e:(Zd 0).l1=[]:=by decide+kernel
  rw [e];rfl
@[simp] theorem z0d:Zc (Zd 0).l2=.sl 1 []:=by
  have e:(Zd 0).l2=[]:=by decide+kernel
  rw [e];rfl
@[simp] def Zn(q:Rat):AV:=.agg [.lit (.bool (Zd q).s),Zc (Zd q).l1,Zc (Zd q).l2]
@[simp] def Ze(f:Zf):AV:=.agg [.sl 4 (f.1.map Zr),.lit (.bool (Zd f.2).s),Zc (Zd f.2).l1,Zc (Zd f.2).l2]
attribute [simp] Zn9 Zr Zh Zb ZD
def Zc7(q:Rat):Rat:=if q.num<0 then -q else q
theorem ZoR(q:Rat):(-q).num=-q.num:=rfl
theorem Zqc(q:Rat):(-q).den=q.den:=rfl
theorem Zar(q:Rat):Zd (Zc7 q)=⟨false,(Zd q).l1,(Zd q).l2⟩:=by
 by_cases h:q.num<0
 ·have e:Zc7 q=-q:=if_pos h
  have e2:decide (-q.num<0)=false:=decide_eq_false (by omega)
  rw [e]
  unfold Zd
  rw [ZoR,Zqc,Int.natAbs_neg,e2]
 ·have e:Zc7 q=q:=if_neg h
  have e2:decide (q.num<0)=false:=decide_eq_false h
  rw [e]
  unfold Zd
  rw [e2]
@[simp] theorem ZAy(q:Rat):(Zd (Zc7 q)).s=false:=by rw [Zar]
@[simp] theorem ZBc(q:Rat):(Zd (Zc7 q)).l1=(Zd q).l1:=by rw [Zar]
@[simp] theorem ZAQ(q:Rat):(Zd (Zc7 q)).l2=(Zd q).l2:=by rw [Zar]
theorem Zwo(q:Rat):H (Zc7 q)=H q:=by
 unfold Zc7
 split
 ·unfold H
  rw [ZoR,Zqc,Int.natAbs_neg]
 ·rfl
def InI(z:Int):Prop:=-9223372036854775808≤z∧z≤9223372036854775807
theorem KY{p:Rat}(hp:H p≤17179869184):Zdh [.agg [.lit (.bool (Zd p).s),Zc (Zd p).l1,Zc (Zd p).l2]]=some (.lit (.bool true)):=by
 unfold Zdh
 rw [ZeR hp]
 have e:QO (Zd p).s (Zd p).l1 (Zd p).l2:=by
  have h:sv (Zd p).s (Zd p).l1 (Zd p).l2=p:=Qr p
  unfold QO
  rw [h]
  exact ⟨rfl,rfl,rfl⟩
 simp [e]
@[simp] def ZE(z:Int):List AV:=[.lit (.int .i64 z)]
@[simp] def ZuM(z:Int):List AV:=[.lit (.int .u8 z)]
@[simp] def ZzX(z:Int):List AV:=[.lit (.int .u32 z)]
@[simp] def ZcO(b:Bool):List AV:=[.lit (.bool b)]
@[simp] def Jn(s:ByteArray):List AV:=[.lit (.string s)]
def YW(x y:Int):Rat:=(x:Rat) / (y:Rat)
def ofQ(z:Int):Rat:=(z:Rat)
theorem Zbo{x y:Int}(hx:-9223372036854775808≤x∧x≤9223372036854775807)(hy:-9223372036854775808≤y∧y≤9223372036854775807)(h0:y≠0):
  ZtL [.lit (.int .i64 x),.lit (.int .i64 y)]=some (.tup [.agg [.lit (.bool (Zd (YW x y)).s),Zc (Zd (YW x y)).l1,Zc (Zd (YW x y)).l2],.lit (.int .i64 0)]):=if_pos ⟨hx,hy,h0⟩
theorem WD{z:Int}(h1:-9223372036854775808≤z)(h2:z≤9223372036854775807):fOf [.lit (.int .i64 z)]=some (.agg [.lit (.bool (Zd (ofQ z)).s),Zc (Zd (ofQ z)).l1,Zc (Zd (ofQ z)).l2]):=ZAV h1 h2
@[simp] theorem Zxg(l:List Rat):Qe 3 (l.map Zn9)=true:=YI (fun x=>by simp) l
@[simp] theorem ZwT(l:List (Int × Rat)):Qe 4 (l.map Zr)=true:=YI (fun x=>by simp) l
@[simp] theorem ZwG(l:List Zf):Qe 4 (l.map Zh)=true:=YI (fun x=>by simp) l
@[simp] theorem ZtT(l:List Int):Qe 1 (l.map ZE)=true:=YI (fun x=>by simp) l
@[simp] theorem Zu0(l:List Int):Qe 1 (l.map ZuM)=true:=YI (fun x=>by simp) l
@[simp] theorem ZwL(l:List Bool):Qe 1 (l.map ZcO)=true:=YI (fun x=>by simp) l
@[simp] theorem Zx7(l:List ByteArray):Qe 1 (l.map Jn)=true:=YI (fun x=>by simp) l
section
variable {α β γ : Type} {P : Program} {O : FuncId → Option Orc} {m N : Nat} {lives : Nat → List Nat} {r : Nat} {C : Code} {M : Nat} {L : List α} {enc : Nat → β → St} {exN exE : Ex}
noncomputable def Zk(P:Program)(O:FuncId→Option Orc)(m N:Nat)(lives:Nat→List Nat)(r:Nat)(C:Code)(e:St):Option (Ex × St):=
 match (match exec P O m N lives big C e with
  | some (.nrm,s')=>U1 m (exec P O m N lives big C) (lives r) 4294967295 s'
  | x=>x) with
 | some (ex,s')=>(match gc m (lives (Zo r)) s' with|some s2=>some (ex,s2)|none=>none)
 | none=>none
theorem Zi{C':Code}{s e:St}(hC:C=C')(hg:gc m (lives r) s=some e):Zoo P O m N lives big r C s=Zk P O m N lives r C' e:=by
 subst hC
 unfold Zoo Zk
 have hb:U1 m (exec P O m N lives big C) (lives r) big s=U1 m (exec P O m N lives big C) (lives r) (4294967295+1) s:=rfl
 rw [hb,U1,hg]
 dsimp only
 cases exec P O m N lives big C e with
 | none=>rfl
 | some p=>
   obtain ⟨ex,s1⟩:=p
   cases ex <;>rfl
theorem ZiF{live outL:List Nat}{step:St→Option (Ex × St)}{Inv:Nat→β→Prop}{Q:Ex→St→Prop}(hstep:∀i b,i<M→Inv i b→(∃b',Zm m step live (enc i b) (enc (i+1) b')∧Inv (i+1) b')∨(∃ex t,ex≠.nrm∧Zj m step outL (enc i b) ex t∧Q ex t))(hend:∀b,Inv M b→∃ex t,ex≠.nrm∧Zj m step outL (enc M b) ex t∧Q ex t):
  ∀(k i n:Nat) (b:β),i+k=M→k≤n→Inv i b→∃ex s' t,(match step (enc i b) with|some (.nrm,s')=>U1 m step live n s'|x=>x)=some (ex,s')∧gc m outL s'=some t∧Q ex t
 | 0,i,n,b,hi,hn,hI=>by
   obtain rfl:i=M:=by omega
   obtain ⟨ex,t,h0,⟨s',h1,h2⟩,h3⟩:=hend b hI
   refine ⟨ex,s',t,?_,h2,h3⟩
   rw [h1]
   cases ex <;>first|exact absurd rfl h0|rfl
 | k+1,i,n,b,hi,hn,hI=>by
   rcases hstep i b (by omega) hI with ⟨b',⟨s1,h1,h2⟩,h3⟩|⟨ex,t,h0,⟨s',h1,h2⟩,h3⟩
   ·obtain ⟨ex,s',t,h4,h5,h6⟩:=ZiF hstep hend k (i+1) (n-1) b' (by omega) (by omega) h3
    refine ⟨ex,s',t,?_,h5,h6⟩
    rw [h1]
    have e:n=(n-1)+1:=by omega
    rw [e]
    dsimp only
    rw [U1,h2]
    exact h4
   ·refine ⟨ex,s',t,?_,h2,h3⟩
    rw [h1]
    cases ex <;>first|exact absurd rfl h0|rfl
theorem Q4(Inv:Nat→β→Prop)(Q:Ex→St→Prop)(b:β)(hI:Inv 0 b)(hn:M≤4294967295)(hstep:∀i b,i<M→Inv i b→(∃b',Zm m (exec P O m N lives big C) (lives r) (enc i b) (enc (i+1) b')∧Inv (i+1) b')∨(∃ex t,ex≠.nrm∧Zj m (exec P O m N lives big C) (lives (Zo r)) (enc i b) ex t∧Q ex t))(hend:∀b,Inv M b→∃ex t,ex≠.nrm∧Zj m (exec P O m N lives big C) (lives (Zo r)) (enc M b) ex t∧Q ex t):
  ∃ex t,Zk P O m N lives r C (enc 0 b)=some (ex,t)∧Q ex t:=by
 obtain ⟨ex,s',t,h1,h2,h3⟩:=ZiF hstep hend M 0 4294967295 b (by omega) hn hI
 refine ⟨ex,t,?_,h3⟩
 unfold Zk
 rw [h1]
 simp only [h2]
theorem QI(Inv:Nat→β→Prop){out:β→St}(b:β)(hI:Inv 0 b)(hn:M≤4294967295)(hN:exN≠.nrm)(hstep:∀i b,i<M→Inv i b→∃b',Zm m (exec P O m N lives big C) (lives r) (enc i b) (enc (i+1) b')∧Inv (i+1) b')(hend:∀b,Inv M b→Zj m (exec P O m N lives big C) (lives (Zo r)) (enc M b) exN (out b)):
  ∃b',Zk P O m N lives r C (enc 0 b)=some (exN,out b')∧Inv M b':=by
 obtain ⟨ex,t,h1,b',rfl,rfl,h3⟩:=Q4 (m:=m) (C:=C) (P:=P) (O:=O) (N:=N) Inv (fun ex t=>∃b',ex=exN∧t=out b'∧Inv M b') b hI hn (fun i b hi hI=>.inl (hstep i b hi hI)) (fun b hI=>⟨exN,out b,hN,hend b hI,b,rfl,rfl,hI⟩)
 exact ⟨b',h1,h3⟩
theorem Ze9 {f:Nat→β→α→Except γ β} {out:β→St} {outE:γ→St} {Inv:Nat→β→Prop} (b:β) (hI:Inv 0 b) (hn:L.length≤4294967295) (hN:exN≠.nrm) (hE:exE≠.nrm) (hstep:∀i x b,L[i]?=some x→Inv i b→match f i b x with
   | .ok b'=>Zm m (exec P O m N lives big C) (lives r) (enc i b) (enc (i+1) b')∧Inv (i+1) b'
   | .error c=>Zj m (exec P O m N lives big C) (lives (Zo r)) (enc i b) exE (outE c)) (hend:∀b,Inv L.length b→Zj m (exec P O m N lives big C) (lives (Zo r)) (enc L.length b) exN (out b)):
  Zk P O m N lives r C (enc 0 b)=some (Zsp (XA f 0 b L) exN out exE outE)∧∀b',XA f 0 b L=.ok b'→Inv L.length b':=by
 obtain ⟨ex,t,h1,h2,h3⟩:=Q4 (m:=m) (C:=C) (P:=P) (O:=O) (N:=N) (lives:=lives) (r:=r) (enc:=enc) (M:=L.length) (fun i b'=>Inv i b'∧XA f i b' (L.drop i)=XA f 0 b L)
  (fun ex t=>(ex,t)=Zsp (XA f 0 b L) exN out exE outE∧∀b',XA f 0 b L=.ok b'→Inv L.length b') b ⟨hI,rfl⟩ hn
  (fun i b' hi ⟨hI,hf⟩=>by
   have hx:L[i]?=some L[i]:=List.getElem?_eq_getElem hi
   have hd:L.drop i=L[i]::L.drop (i+1):=List.drop_eq_getElem_cons hi
   have h4:=hstep i _ b' hx hI
   rw [hd,XA] at hf
   split at h4
   ·rename_i b2 he
    rw [he] at hf
    exact .inl ⟨b2,h4.1,h4.2,hf⟩
   ·rename_i c he
    rw [he] at hf
    exact .inr ⟨exE,outE c,hE,h4,by rw [←hf];rfl,fun b' h=>by rw [←hf] at h;cases h⟩)
  (fun b' ⟨hI,hf⟩=>by
   rw [List.drop_length,XA] at hf
   exact ⟨exN,out b',hN,hend b' hI,by rw [←hf];rfl,fun b2 h=>by rw [←hf] at h;cases h;exact hI⟩)
 rw [h1,h2]
 exact ⟨rfl,h3⟩
theorem X4{f:Nat→β→α→β}{out:β→St}{Inv:Nat→β→Prop}(b:β)(hI:Inv 0 b)(hn:L.length≤4294967295)(hN:exN≠.nrm)(hstep:∀i x b,L[i]?=some x→Inv i b→Zm m (exec P O m N lives big C) (lives r) (enc i b) (enc (i+1) (f i b x))∧Inv (i+1) (f i b x))(hend:∀b,Inv L.length b→Zj m (exec P O m N lives big C) (lives (Zo r)) (enc L.length b) exN (out b)):
  Zk P O m N lives r C (enc 0 b)=some (exN,out (VJ f 0 b L))∧Inv L.length (VJ f 0 b L):=by
 have key:∀(R:List α) (i:Nat) (b:β),XA (γ:=Empty) (fun i b x=>.ok (f i b x)) i b R=.ok (VJ f i b R):=fun R=>by
  induction R with
  | nil=>intro i b;rfl
  | cons x R ih=>intro i b;exact ih (i+1) (f i b x)
 have h:=Ze9 (γ:=Empty) (f:=fun i b x=>.ok (f i b x)) (exE:=.ret) (outE:=fun c=>c.elim) (P:=P) (O:=O) (m:=m) (N:=N) (lives:=lives) (r:=r) (C:=C) b hI hn hN (fun h=>by cases h) hstep hend
 rw [key] at h
 exact ⟨h.1,h.2 _ rfl⟩
end
theorem Q2{P:Program}{O:FuncId→Option Orc}{m N:Nat}{lives:Nat→List Nat}{r:Nat}{C:Code}{M:Nat}{enc:Nat→St}{p:Nat→Bool}{exN exE:Ex}{out outE:St}(hn:M≤4294967295)(hN:exN≠.nrm)(hE:exE≠.nrm)(hstep:∀i,i<M→(∀j,j<i→p j=true)→(p i=true→Zm m (exec P O m N lives big C) (lives r) (enc i) (enc (i+1)))∧(p i=false→Zj m (exec P O m N lives big C) (lives (Zo r)) (enc i) exE outE))(hend:Zj m (exec P O m N lives big C) (lives (Zo r)) (enc M) exN out):
  Zk P O m N lives r C (enc 0)=some (if ∀i,i<M→p i=true then (exN,out) else (exE,outE)):=by
 obtain ⟨ex,t,h1,h2⟩:=Q4 (β:=Unit) (m:=m) (C:=C) (P:=P) (O:=O) (N:=N) (lives:=lives) (r:=r) (M:=M) (enc:=fun i _=>enc i) (fun i _=>∀j,j<i→p j=true) (fun ex t=>(ex,t)=if ∀i,i<M→p i=true then (exN,out) else (exE,outE)) () (fun j hj=>absurd hj (by omega)) hn
  (fun i b hi hI=>by
   cases hp:p i with
   | true=>exact .inl ⟨(),(hstep i hi hI).1 hp,fun j hj=>by rcases Nat.lt_succ_iff_lt_or_eq.1 hj with h|rfl;exact hI j h;exact hp⟩
   | false=>
     refine .inr ⟨exE,outE,hE,(hstep i hi hI).2 hp,?_⟩
     rw [if_neg]
     intro h
     rw [h i hi] at hp;cases hp)
  (fun b hI=>⟨exN,out,hN,hend,by rw [if_pos hI]⟩)
 rw [h1,h2]
structure RawB (r:Raw):Prop where
 n:Lim r.l1
 d:Lim r.l2
 bn:r.l1.length≤17179869184
 bd:r.l2.length≤17179869184
theorem RawB.few{r:Raw}(h:RawB r):r.few=true:=by
 unfold Raw.few
 rw [Bool.and_eq_true]
 exact ⟨Nat.ble_eq_true_of_le h.bn,Nat.ble_eq_true_of_le h.bd⟩
theorem Zbg{q:Rat}(h:H q≤17179869184):RawB (Zd q):=by
 have a1:(lmb q.num.natAbs).length≤H q:=Nat.le_max_left _ _
 have a2:(QL q.den).length≤H q:=Nat.le_trans (Zc2 _) (Nat.le_max_right _ _)
 exact ⟨Yk _,Zc8 _,Nat.le_trans a1 h,Nat.le_trans a2 h⟩
theorem Zsz{F:Raw→AV}{r:Raw}(h:RawB r):o1 F [.agg [.lit (.bool r.s),Zc r.l1,Zc r.l2]]=some (F r):=by
 have h1:Zav (.agg [.lit (.bool r.s),Zc r.l1,Zc r.l2])=some r:=Zaj h.n h.d
 simp only [o1,h1,h.few,if_true]
theorem VU{r:Raw}(h:RawB r):Zdh [.agg [.lit (.bool r.s),Zc r.l1,Zc r.l2]]=some (.lit (.bool (decide (QO r.s r.l1 r.l2)))):=Zsz h
theorem VK{r:Raw}(h:RawB r):ZgK [.agg [.lit (.bool r.s),Zc r.l1,Zc r.l2]]=some (.lit (.int .i64 (sgR r.q))):=Zsz h
@[simp] def Zrb(r:Raw):List AV:=[.lit (.bool r.s),Zc r.l1,Zc r.l2]
@[simp] def YR(t:Int × Raw):List AV:=[.lit (.int .i64 t.1),.lit (.bool t.2.s),Zc t.2.l1,Zc t.2.l2]
abbrev Yo:=List (Int × Raw) × Raw
@[simp] def Yw(f:Yo):List AV:=[.sl 4 (f.1.map YR),.lit (.bool f.2.s),Zc f.2.l1,Zc f.2.l2]
@[simp] theorem ZyS(l:List Raw):Qe 3 (l.map Zrb)=true:=YI (fun x=>by simp) l
@[simp] theorem ZvV(l:List (Int × Raw)):Qe 4 (l.map YR)=true:=YI (fun x=>by simp) l
@[simp] theorem ZvO(l:List Yo):Qe 4 (l.map Yw)=true:=YI (fun x=>by simp) l
structure ZC where
 c:List Int
 from_:Int
@[simp] def Ye(g:ZC):List AV:=[.sl 1 (g.c.map ZE),.lit (.int .u64 (g.from_))]
@[simp] def ZDJ(g:ZC):AV:=.agg [.sl 1 (g.c.map ZE),.lit (.int .u64 (g.from_))]
@[simp] theorem Zyl(l:List ZC):Qe 2 (l.map Ye)=true:=YI (fun x=>by simp) l
structure Zwv where
 Neg:Bool
 Mag:List Nat
@[simp] def ZA0(g:Zwv):List AV:=[.lit (.bool g.Neg),Zc g.Mag]
@[simp] def ZDw(g:Zwv):AV:=.agg [.lit (.bool g.Neg),Zc g.Mag]
@[simp] theorem ZxY(l:List Zwv):Qe 2 (l.map ZA0)=true:=YI (fun x=>by simp) l
structure ZK where
 Vars:Int
 Rows:List Zf
 Objective:Zf
@[simp] def ZoP(g:ZK):List AV:=[.lit (.int .i64 (g.Vars)),.sl 4 (g.Rows.map Zh),.sl 4 (g.Objective.1.map Zr),.lit (.bool (Zd g.Objective.2).s),Zc (Zd g.Objective.2).l1,Zc (Zd g.Objective.2).l2]
@[simp] def XW(g:ZK):AV:=.agg [.lit (.int .i64 (g.Vars)),.sl 4 (g.Rows.map Zh),.sl 4 (g.Objective.1.map Zr),.lit (.bool (Zd g.Objective.2).s),Zc (Zd g.Objective.2).l1,Zc (Zd g.Objective.2).l2]
@[simp] theorem Zq2(l:List ZK):Qe 6 (l.map ZoP)=true:=YI (fun x=>by simp) l
structure Zbf where
 Vars:Int
 Rows:List Yo
 Objective:Yo
@[simp] def Zj5(g:Zbf):List AV:=[.lit (.int .i64 (g.Vars)),.sl 4 (g.Rows.map Yw),.sl 4 (g.Objective.1.map YR),.lit (.bool g.Objective.2.s),Zc g.Objective.2.l1,Zc g.Objective.2.l2]
@[simp] def ZwH(g:Zbf):AV:=.agg [.lit (.int .i64 (g.Vars)),.sl 4 (g.Rows.map Yw),.sl 4 (g.Objective.1.map YR),.lit (.bool g.Objective.2.s),Zc g.Objective.2.l1,Zc g.Objective.2.l2]
@[simp] theorem Zql(l:List Zbf):Qe 6 (l.map Zj5)=true:=YI (fun x=>by simp) l
end
end Go.Proofs.YtdaonnnlgfhlaaaGreatDoor
