import Derived.Test.YtdaonnnlgfhlaaaGreatDoorGF15
import Derived.Test.YtdaonnnlgfhlaaaGreatDoorGF13
import Derived.Test.YtdaonnnlgfhlaaaGreatDoorGF8
set_option linter.all false
set_option maxRecDepth 100000
namespace Go.Proofs.YtdaonnnlgfhlaaaGreatDoor
section
open Go.RowKit
def livesT:List (Nat × List (Nat × List Nat)):=[(9,[(4,[1,3]),(1000004,[2])]),(13,[(4,[2,3,5]),(1000004,[4])]),(17,[(6,[1,6,7,8,27,28,29,ph 6 0 28 4]),(16,[1,6,8,53,54,55]),(20,[1,6,8,12,13,53,54,55,62,63,64]),(1000006,[1,6,7,8]),(1000016,[6]),(1000020,[1,6,8,53,54,55])]),(18,[(5,[0,1,6,7,8,9]),(16,[1,6,7,8,10]),(19,[1,6,7,8,10,11]),(1000005,[1,4,5,6,7,8]),(1000016,[6]),(1000019,[1,6,7,8,10])]),(19,[(4,[0,1,5]),(1000004,[4])]),(21,[(2,[1,2,5]),(1000002,[2,4])]),(22,[(2,[1,2,4,5]),(1000002,[4])]),(29,[(8,[3,4,6,7,8]),(16,[3,4,7,11,12]),(20,[3,4,7,11,12,13,14]),(1000008,[2,3,4,7]),(1000016,[2,3,4,7]),(1000020,[3,4,7,11,12,13])]),(30,[(9,[2,7,12,13,56,57,58]),(1000009,[6,7,8,12,13])]),(41,[(3,[2,3,4,5,6,ph 5 0 68 4]),(1000003,[4,5])]),(43,[(4,[0,5]),(1000004,[4])]),(44,[(2,[1,7,8,9]),(1000002,[4])]),(45,[(2,[1,4,8,9,10]),(1000002,[4])]),(49,[(5,[0,5,6]),(1000005,[0,4,5])]),(50,[(3,[3,4,5,6]),(1000003,[4,5])]),(54,[(3,[0,1,5,6]),(7,[0,1,5,6,7,8]),(1000003,[5]),(1000007,[0,1,5,6])]),(58,[(2,[0,11,12]),(11,[8,28,29,30,ph 8 0 28 4]),(1000002,[0,4,5]),(1000011,[8])]),(59,[(2,[0,1,5]),(1000002,[1,4])]),(60,[(3,[0,1,6,7]),(7,[1,6,8]),(1000003,[1,6]),(1000007,[4,5,6])]),(63,[(4,[1,2,6,7,8]),(18,[1,6,7,14,15]),(24,[1,6,7,14,16]),(1000004,[1,4,5,6,7]),(1000018,[1,4,5,6,7,14]),(1000024,[6])]),(64,[(3,[0,1,5,6,7]),(1000003,[5,6])]),(65,[(3,[0,1,2,8,9]),(8,[0,1,2,8,10]),(11,[0,1,2,8,10,11]),(16,[0,1,2,8,10,11,12,13]),(1000003,[0,1,2,8]),(1000008,[6,7,8]),(1000011,[0,1,2,6,7,8,10]),(1000016,[0,1,2,8,10,11,12])]),(66,[(4,[0,1,5,6,7,8,9,10,ph 8 1 0 0,ph 8 2 0 0,ph 9 1 0 0,ph 9 2 0 0]),(1000004,[4,5,6,7,8,9])]),(67,[(2,[1,2,8,9,10]),(1000002,[2,4])]),(76,[(6,[1,5,29,30,31]),(10,[1,5,6,7,8,29,30,31,36,37,38]),(1000006,[5]),(1000010,[1,5,6,8,29,30,31])]),(78,[(3,[5,6,7,8,9,ph 7 0 68 4]),(1000003,[6,7])]),(84,[(4,[1,3,4,11,12,13]),(1000004,[1,3,4])]),(86,[(4,[1,3,5,6,7,8,9]),(1000004,[1,3,5,6,7,8])]),(88,[(2,[0,1]),(1000002,[0])]),(89,[(9,[0,1,11,12,13]),(1000009,[11,12])]),(91,[(2,[0,3]),(1000002,[0,3])]),(93,[(1,[0,1]),(1000001,[0])]),(94,[(3,[0,3,4]),(7,[0,3,5]),(1000003,[0,3]),(1000007,[2])]),(95,[(2,[0,3]),(1000002,[3])]),(100,[(3,[0,4,6,7,ph 6 0 0 0]),(1000003,[4,5,6])]),(107,[(2,[0,1]),(10,[11,13]),(1000002,[0,1]),(1000010,[11])]),(108,[(13,[9,10,11,12,13]),(1000013,[9,10,12])]),(109,[(2,[0,3]),(1000002,[0,3])]),(113,[(4,[0,1,5,6,7]),(1000004,[5,6])]),(114,[(6,[0,1,6,7,8]),(1000006,[6])]),(122,[(6,[3,4]),(1000006,[3])]),(123,[(4,[0,1,5,6,7]),(1000004,[5,6])]),(124,[(2,[0,1,5]),(1000002,[4])]),(127,[(7,[0,1,5]),(1000007,[4])]),(131,[(6,[4,12,13,14]),(1000006,[4])]),(132,[(4,[0,1,6,7,8]),(1000004,[6,7])]),(134,[(3,[1,5,13,14,15]),(1000003,[5])]),(135,[(3,[0,1,2,7,8,15,16,17]),(17,[0,1,2,7,70,71,72]),(1000003,[0,1,2,7,8]),(1000017,[0,1,2,7])]),(136,[(4,[0,1,5,7,8]),(1000004,[7])]),(137,[(9,[0,1,6,30,31,32]),(1000009,[6])]),(141,[(5,[0,3,4]),(1000005,[4])]),(147,[(38,[7,8,9]),(1000038,[9])]),(148,[(1,[0,2,3]),(1000001,[])]),(149,[(12,[0,1,5,39,40,41]),(22,[1,8,63,64,65]),(1000012,[0,1,5]),(1000022,[8])]),(152,[(1,[0,1,4]),(1000001,[0,1,4])]),(153,[(11,[0,1,3,4,10,11,12,13,14,15,16]),(18,[0,1,3,4,10,11,12,13,17]),(1000011,[0,1,3,4,10,11,12,13]),(1000018,[0,1,3,4,10,11,12,13])])]
def livesOf(f:FuncId):Nat→List Nat:=lv ((livesT.lookup f).getD [])
def modesT:List (Nat × (List Bool × Bool)):=[(46,([true,false],false)),(49,([true,false],true)),(81,([true,false],true)),(94,([true],false)),(112,([true,false,false],true)),(115,([false,false,true],false)),(116,([true],false)),(117,([true,false],false)),(120,([true],false)),(135,([true,false,false],false)),(139,([true],false)),(148,([true],false)),(152,([true,false],false)),(153,([true,false,false,false,false],true)),(157,([true,false],false)),(166,([true,false],false))]
noncomputable def fnOf(f:FuncId):Func:=(Tryz.prog.funcs[f]?).getD default
def keepOf(f:FuncId):Bool:=((modesT.lookup f).getD ([],false)).2
noncomputable def tab:Nat→FuncId→Option Orc
 | 0,f=>orc0 f
 | n+1,f=>match orc0 f with
   | some x=>some x
   | none=>match plainF Tryz.prog f with
     | true=>(match modesT.lookup f with
       | some (ms,k)=>some (.lin ms (fnL Tryz.prog (tab n) (livesOf f) big (fnOf f) (keepOf f)))
       | none=>some (.pure (fnP Tryz.prog (tab n) (livesOf f) big (fnOf f))))
     | false=>none
theorem plain_fn{f:FuncId}(h:plainF Tryz.prog f=true): Tryz.prog.funcs[f]?=some (fnOf f):=by
 unfold plainF at h
 unfold fnOf
 split at h
 ·rename_i fn hf;rw [hf];rfl
 ·cases h
theorem tab_ok:∀n,OrcOk Tryz.prog (tab n)
 | 0=>orc0_ok
 | n+1=>by
   have key:∀f x,tab (n+1) f=some x→(orc0 f=some x)∨(plainF Tryz.prog f=true∧((∃(ms:List Bool) (k:Bool),x=.lin ms (fnL Tryz.prog (tab n) (livesOf f) big (fnOf f) (keepOf f)))∨x=.pure (fnP Tryz.prog (tab n) (livesOf f) big (fnOf f)))):=fun f x h=>by
    unfold tab at h
    split at h
    ·rename_i y hy;cases h;exact .inl hy
    ·split at h
     ·rename_i hp
      split at h
      ·cases h;exact .inr ⟨hp,.inl ⟨_,false,rfl⟩⟩
      ·cases h;exact .inr ⟨hp,.inr rfl⟩
     ·cases h
   refine ⟨fun f g h=>?_,fun f ms g h=>?_⟩
   ·rcases key f _ h with h|⟨hp,⟨ms,k,h⟩|h⟩
    ·exact orc0_ok.pure f g h
    ·cases h
    ·cases h
     exact ⟨hp,fun args r hr=>con_of (tab_ok n) mixed (plain_fn hp) (body_some hp (plain_fn hp)) hr⟩
   ·rcases key f _ h with h|⟨hp,⟨ms,k,h⟩|h⟩
    ·exact orc0_ok.lin f ms g h
    ·cases h
     exact ⟨hp,fun bin args r outs hr=>conL_of (tab_ok n) mixed (plain_fn hp) (body_some hp (plain_fn hp)) hr⟩
    ·cases h
noncomputable def run(n:Nat)(f:FuncId)(args:List AV):Option AV:=fnP Tryz.prog (tab n) (livesOf f) big (fnOf f) args
noncomputable def runL(n:Nat)(f:FuncId)(args:List AV)(bin:List AB):Option (AV × List (Nat × AB)):=fnL Tryz.prog (tab n) (livesOf f) big (fnOf f) (keepOf f) args bin
theorem tab_pure{n:Nat}{f:FuncId}(h0:orc0 f=none)(hp:plainF Tryz.prog f=true)(hm:modesT.lookup f=none):tab (n+1) f=some (.pure (run n f)):=by
 unfold tab
 rw [h0]
 simp only [hp,hm]
 rfl
theorem tab_lin{n:Nat}{f:FuncId}{ms:List Bool}{k:Bool}(h0:orc0 f=none)(hp:plainF Tryz.prog f=true)(hm:modesT.lookup f=some (ms,k)):tab (n+1) f=some (.lin ms (runL n f)):=by
 unfold tab
 rw [h0]
 simp only [hp,hm]
 rfl
theorem tab_num{f:FuncId}{x:Orc}(h:orc0 f=some x):∀n,tab n f=some x
 | 0=>h
 | n+1=>by unfold tab;rw [h]
@[simp] theorem fn_6:fnOf 6= Tryz.f6:=by kernel_rfl
@[simp] theorem tb_8(n:Nat):tab (n+1) 8=some (.pure (run n 8)):=tab_pure (by kernel_rfl) (by kernel_rfl) (by kernel_rfl)
@[simp] theorem fn_9:fnOf 9= Tryz.f9:=by kernel_rfl
@[simp] theorem lv_9_4:livesOf 9 4=[1,3]:=by kernel_rfl
@[simp] theorem lv_9_1000004:livesOf 9 1000004=[2]:=by kernel_rfl
@[simp] theorem tb_9(n:Nat):tab (n+1) 9=some (.pure (run n 9)):=tab_pure (by kernel_rfl) (by kernel_rfl) (by kernel_rfl)
@[simp] theorem fn_11:fnOf 11= Tryz.f11:=by kernel_rfl
@[simp] theorem tb_11(n:Nat):tab (n+1) 11=some (.pure (run n 11)):=tab_pure (by kernel_rfl) (by kernel_rfl) (by kernel_rfl)
@[simp] theorem fn_13:fnOf 13= Tryz.f13:=by kernel_rfl
@[simp] theorem lv_13_4:livesOf 13 4=[2,3,5]:=by kernel_rfl
@[simp] theorem lv_13_1000004:livesOf 13 1000004=[4]:=by kernel_rfl
@[simp] theorem tb_13(n:Nat):tab (n+1) 13=some (.pure (run n 13)):=tab_pure (by kernel_rfl) (by kernel_rfl) (by kernel_rfl)
@[simp] theorem fn_14:fnOf 14= Tryz.f14:=by kernel_rfl
@[simp] theorem tb_14(n:Nat):tab (n+1) 14=some (.pure (run n 14)):=tab_pure (by kernel_rfl) (by kernel_rfl) (by kernel_rfl)
@[simp] theorem fn_16:fnOf 16= Tryz.f16:=by kernel_rfl
@[simp] theorem tb_16(n:Nat):tab (n+1) 16=some (.pure (run n 16)):=tab_pure (by kernel_rfl) (by kernel_rfl) (by kernel_rfl)
@[simp] theorem fn_17:fnOf 17= Tryz.f17:=by kernel_rfl
@[simp] theorem lv_17_6:livesOf 17 6=[1,6,7,8,27,28,29,ph 6 0 28 4]:=by kernel_rfl
@[simp] theorem lv_17_16:livesOf 17 16=[1,6,8,53,54,55]:=by kernel_rfl
@[simp] theorem lv_17_20:livesOf 17 20=[1,6,8,12,13,53,54,55,62,63,64]:=by kernel_rfl
@[simp] theorem lv_17_1000006:livesOf 17 1000006=[1,6,7,8]:=by kernel_rfl
@[simp] theorem lv_17_1000016:livesOf 17 1000016=[6]:=by kernel_rfl
@[simp] theorem lv_17_1000020:livesOf 17 1000020=[1,6,8,53,54,55]:=by kernel_rfl
@[simp] theorem tb_17(n:Nat):tab (n+1) 17=some (.pure (run n 17)):=tab_pure (by kernel_rfl) (by kernel_rfl) (by kernel_rfl)
@[simp] theorem fn_18:fnOf 18= Tryz.f18:=by kernel_rfl
@[simp] theorem lv_18_5:livesOf 18 5=[0,1,6,7,8,9]:=by kernel_rfl
@[simp] theorem lv_18_16:livesOf 18 16=[1,6,7,8,10]:=by kernel_rfl
@[simp] theorem lv_18_19:livesOf 18 19=[1,6,7,8,10,11]:=by kernel_rfl
@[simp] theorem lv_18_1000005:livesOf 18 1000005=[1,4,5,6,7,8]:=by kernel_rfl
@[simp] theorem lv_18_1000016:livesOf 18 1000016=[6]:=by kernel_rfl
@[simp] theorem lv_18_1000019:livesOf 18 1000019=[1,6,7,8,10]:=by kernel_rfl
@[simp] theorem tb_18(n:Nat):tab (n+1) 18=some (.pure (run n 18)):=tab_pure (by kernel_rfl) (by kernel_rfl) (by kernel_rfl)
@[simp] theorem fn_21:fnOf 21= Tryz.f21:=by kernel_rfl
@[simp] theorem lv_21_2:livesOf 21 2=[1,2,5]:=by kernel_rfl
@[simp] theorem lv_21_1000002:livesOf 21 1000002=[2,4]:=by kernel_rfl
@[simp] theorem tb_21(n:Nat):tab (n+1) 21=some (.pure (run n 21)):=tab_pure (by kernel_rfl) (by kernel_rfl) (by kernel_rfl)
@[simp] theorem fn_22:fnOf 22= Tryz.f22:=by kernel_rfl
@[simp] theorem lv_22_2:livesOf 22 2=[1,2,4,5]:=by kernel_rfl
@[simp] theorem lv_22_1000002:livesOf 22 1000002=[4]:=by kernel_rfl
@[simp] theorem tb_22(n:Nat):tab (n+1) 22=some (.pure (run n 22)):=tab_pure (by kernel_rfl) (by kernel_rfl) (by kernel_rfl)
@[simp] theorem fn_23:fnOf 23= Tryz.f23:=by kernel_rfl
@[simp] theorem tb_23(n:Nat):tab (n+1) 23=some (.pure (run n 23)):=tab_pure (by kernel_rfl) (by kernel_rfl) (by kernel_rfl)
@[simp] theorem fn_27:fnOf 27= Tryz.f27:=by kernel_rfl
@[simp] theorem tb_27(n:Nat):tab (n+1) 27=some (.pure (run n 27)):=tab_pure (by kernel_rfl) (by kernel_rfl) (by kernel_rfl)
@[simp] theorem fn_28:fnOf 28= Tryz.f28:=by kernel_rfl
@[simp] theorem tb_28(n:Nat):tab (n+1) 28=some (.pure (run n 28)):=tab_pure (by kernel_rfl) (by kernel_rfl) (by kernel_rfl)
@[simp] theorem fn_29:fnOf 29= Tryz.f29:=by kernel_rfl
@[simp] theorem lv_29_8:livesOf 29 8=[3,4,6,7,8]:=by kernel_rfl
@[simp] theorem lv_29_16:livesOf 29 16=[3,4,7,11,12]:=by kernel_rfl
@[simp] theorem lv_29_20:livesOf 29 20=[3,4,7,11,12,13,14]:=by kernel_rfl
@[simp] theorem lv_29_1000008:livesOf 29 1000008=[2,3,4,7]:=by kernel_rfl
@[simp] theorem lv_29_1000016:livesOf 29 1000016=[2,3,4,7]:=by kernel_rfl
@[simp] theorem lv_29_1000020:livesOf 29 1000020=[3,4,7,11,12,13]:=by kernel_rfl
@[simp] theorem tb_29(n:Nat):tab (n+1) 29=some (.pure (run n 29)):=tab_pure (by kernel_rfl) (by kernel_rfl) (by kernel_rfl)
@[simp] theorem fn_33:fnOf 33= Tryz.f33:=by kernel_rfl
@[simp] theorem tb_33(n:Nat):tab (n+1) 33=some (.pure (run n 33)):=tab_pure (by kernel_rfl) (by kernel_rfl) (by kernel_rfl)
@[simp] theorem fn_36:fnOf 36= Tryz.f36:=by kernel_rfl
@[simp] theorem tb_36(n:Nat):tab (n+1) 36=some (.pure (run n 36)):=tab_pure (by kernel_rfl) (by kernel_rfl) (by kernel_rfl)
@[simp] theorem fn_37:fnOf 37= Tryz.f37:=by kernel_rfl
@[simp] theorem tb_37(n:Nat):tab (n+1) 37=some (.pure (run n 37)):=tab_pure (by kernel_rfl) (by kernel_rfl) (by kernel_rfl)
@[simp] theorem fn_41:fnOf 41= Tryz.f41:=by kernel_rfl
@[simp] theorem lv_41_3:livesOf 41 3=[2,3,4,5,6,ph 5 0 68 4]:=by kernel_rfl
@[simp] theorem lv_41_1000003:livesOf 41 1000003=[4,5]:=by kernel_rfl
@[simp] theorem tb_41(n:Nat):tab (n+1) 41=some (.pure (run n 41)):=tab_pure (by kernel_rfl) (by kernel_rfl) (by kernel_rfl)
@[simp] theorem fn_43:fnOf 43= Tryz.f43:=by kernel_rfl
@[simp] theorem lv_43_4:livesOf 43 4=[0,5]:=by kernel_rfl
@[simp] theorem lv_43_1000004:livesOf 43 1000004=[4]:=by kernel_rfl
@[simp] theorem tb_43(n:Nat):tab (n+1) 43=some (.pure (run n 43)):=tab_pure (by kernel_rfl) (by kernel_rfl) (by kernel_rfl)
@[simp] theorem fn_44:fnOf 44= Tryz.f44:=by kernel_rfl
@[simp] theorem lv_44_2:livesOf 44 2=[1,7,8,9]:=by kernel_rfl
@[simp] theorem lv_44_1000002:livesOf 44 1000002=[4]:=by kernel_rfl
@[simp] theorem tb_44(n:Nat):tab (n+1) 44=some (.pure (run n 44)):=tab_pure (by kernel_rfl) (by kernel_rfl) (by kernel_rfl)
@[simp] theorem fn_45:fnOf 45= Tryz.f45:=by kernel_rfl
@[simp] theorem lv_45_2:livesOf 45 2=[1,4,8,9,10]:=by kernel_rfl
@[simp] theorem lv_45_1000002:livesOf 45 1000002=[4]:=by kernel_rfl
@[simp] theorem tb_45(n:Nat):tab (n+1) 45=some (.pure (run n 45)):=tab_pure (by kernel_rfl) (by kernel_rfl) (by kernel_rfl)
@[simp] theorem fn_46:fnOf 46= Tryz.f46:=by kernel_rfl
@[simp] theorem tb_46(n:Nat):tab (n+1) 46=some (.lin [true,false] (runL n 46)):=tab_lin (k:=false) (by kernel_rfl) (by kernel_rfl) (by kernel_rfl)
@[simp] theorem kp_46:keepOf 46=false:=by kernel_rfl
@[simp] theorem fn_48:fnOf 48= Tryz.f48:=by kernel_rfl
@[simp] theorem tb_48(n:Nat):tab (n+1) 48=some (.pure (run n 48)):=tab_pure (by kernel_rfl) (by kernel_rfl) (by kernel_rfl)
@[simp] theorem fn_49:fnOf 49= Tryz.f49:=by kernel_rfl
@[simp] theorem lv_49_5:livesOf 49 5=[0,5,6]:=by kernel_rfl
@[simp] theorem lv_49_1000005:livesOf 49 1000005=[0,4,5]:=by kernel_rfl
@[simp] theorem tb_49(n:Nat):tab (n+1) 49=some (.lin [true,false] (runL n 49)):=tab_lin (k:=true) (by kernel_rfl) (by kernel_rfl) (by kernel_rfl)
@[simp] theorem kp_49:keepOf 49=true:=by kernel_rfl
@[simp] theorem fn_50:fnOf 50= Tryz.f50:=by kernel_rfl
@[simp] theorem lv_50_3:livesOf 50 3=[3,4,5,6]:=by kernel_rfl
@[simp] theorem lv_50_1000003:livesOf 50 1000003=[4,5]:=by kernel_rfl
@[simp] theorem tb_50(n:Nat):tab (n+1) 50=some (.pure (run n 50)):=tab_pure (by kernel_rfl) (by kernel_rfl) (by kernel_rfl)
@[simp] theorem tb_53(n:Nat):tab (n+1) 53=some (.pure (oQt)):=tab_num rfl _
@[simp] theorem tb_54(n:Nat):tab (n+1) 54=some (.pure (oN2 fun x y=>natA (lmb (val x*val y)))):=tab_num rfl _
@[simp] theorem tb_55(n:Nat):tab (n+1) 55=some (.pure (oN1 (fun _=>true) fun x=>natA (lmb (dn x)))):=tab_num rfl _
@[simp] theorem fn_58:fnOf 58= Tryz.f58:=by kernel_rfl
@[simp] theorem lv_58_2:livesOf 58 2=[0,11,12]:=by kernel_rfl
@[simp] theorem lv_58_11:livesOf 58 11=[8,28,29,30,ph 8 0 28 4]:=by kernel_rfl
@[simp] theorem lv_58_1000002:livesOf 58 1000002=[0,4,5]:=by kernel_rfl
@[simp] theorem lv_58_1000011:livesOf 58 1000011=[8]:=by kernel_rfl
@[simp] theorem tb_58(n:Nat):tab (n+1) 58=some (.pure (run n 58)):=tab_pure (by kernel_rfl) (by kernel_rfl) (by kernel_rfl)
@[simp] theorem fn_59:fnOf 59= Tryz.f59:=by kernel_rfl
@[simp] theorem lv_59_2:livesOf 59 2=[0,1,5]:=by kernel_rfl
@[simp] theorem lv_59_1000002:livesOf 59 1000002=[1,4]:=by kernel_rfl
@[simp] theorem tb_59(n:Nat):tab (n+1) 59=some (.pure (run n 59)):=tab_pure (by kernel_rfl) (by kernel_rfl) (by kernel_rfl)
@[simp] theorem fn_60:fnOf 60= Tryz.f60:=by kernel_rfl
@[simp] theorem lv_60_3:livesOf 60 3=[0,1,6,7]:=by kernel_rfl
@[simp] theorem lv_60_7:livesOf 60 7=[1,6,8]:=by kernel_rfl
@[simp] theorem lv_60_1000003:livesOf 60 1000003=[1,6]:=by kernel_rfl
@[simp] theorem lv_60_1000007:livesOf 60 1000007=[4,5,6]:=by kernel_rfl
@[simp] theorem tb_60(n:Nat):tab (n+1) 60=some (.pure (run n 60)):=tab_pure (by kernel_rfl) (by kernel_rfl) (by kernel_rfl)
@[simp] theorem fn_61:fnOf 61= Tryz.f61:=by kernel_rfl
@[simp] theorem tb_61(n:Nat):tab (n+1) 61=some (.pure (run n 61)):=tab_pure (by kernel_rfl) (by kernel_rfl) (by kernel_rfl)
@[simp] theorem fn_62:fnOf 62= Tryz.f62:=by kernel_rfl
@[simp] theorem tb_62(n:Nat):tab (n+1) 62=some (.pure (run n 62)):=tab_pure (by kernel_rfl) (by kernel_rfl) (by kernel_rfl)
@[simp] theorem fn_63:fnOf 63= Tryz.f63:=by kernel_rfl
@[simp] theorem lv_63_4:livesOf 63 4=[1,2,6,7,8]:=by kernel_rfl
@[simp] theorem lv_63_18:livesOf 63 18=[1,6,7,14,15]:=by kernel_rfl
@[simp] theorem lv_63_24:livesOf 63 24=[1,6,7,14,16]:=by kernel_rfl
@[simp] theorem lv_63_1000004:livesOf 63 1000004=[1,4,5,6,7]:=by kernel_rfl
@[simp] theorem lv_63_1000018:livesOf 63 1000018=[1,4,5,6,7,14]:=by kernel_rfl
@[simp] theorem lv_63_1000024:livesOf 63 1000024=[6]:=by kernel_rfl
@[simp] theorem tb_63(n:Nat):tab (n+1) 63=some (.pure (run n 63)):=tab_pure (by kernel_rfl) (by kernel_rfl) (by kernel_rfl)
@[simp] theorem fn_64:fnOf 64= Tryz.f64:=by kernel_rfl
@[simp] theorem lv_64_3:livesOf 64 3=[0,1,5,6,7]:=by kernel_rfl
@[simp] theorem lv_64_1000003:livesOf 64 1000003=[5,6]:=by kernel_rfl
@[simp] theorem tb_64(n:Nat):tab (n+1) 64=some (.pure (run n 64)):=tab_pure (by kernel_rfl) (by kernel_rfl) (by kernel_rfl)
@[simp] theorem fn_65:fnOf 65= Tryz.f65:=by kernel_rfl
@[simp] theorem lv_65_3:livesOf 65 3=[0,1,2,8,9]:=by kernel_rfl
@[simp] theorem lv_65_8:livesOf 65 8=[0,1,2,8,10]:=by kernel_rfl
@[simp] theorem lv_65_11:livesOf 65 11=[0,1,2,8,10,11]:=by kernel_rfl
@[simp] theorem lv_65_16:livesOf 65 16=[0,1,2,8,10,11,12,13]:=by kernel_rfl
@[simp] theorem lv_65_1000003:livesOf 65 1000003=[0,1,2,8]:=by kernel_rfl
@[simp] theorem lv_65_1000008:livesOf 65 1000008=[6,7,8]:=by kernel_rfl
@[simp] theorem lv_65_1000011:livesOf 65 1000011=[0,1,2,6,7,8,10]:=by kernel_rfl
@[simp] theorem lv_65_1000016:livesOf 65 1000016=[0,1,2,8,10,11,12]:=by kernel_rfl
@[simp] theorem tb_65(n:Nat):tab (n+1) 65=some (.pure (run n 65)):=tab_pure (by kernel_rfl) (by kernel_rfl) (by kernel_rfl)
@[simp] theorem fn_66:fnOf 66= Tryz.f66:=by kernel_rfl
@[simp] theorem lv_66_4:livesOf 66 4=[0,1,5,6,7,8,9,10,ph 8 1 0 0,ph 8 2 0 0,ph 9 1 0 0,ph 9 2 0 0]:=by kernel_rfl
@[simp] theorem lv_66_1000004:livesOf 66 1000004=[4,5,6,7,8,9]:=by kernel_rfl
@[simp] theorem tb_66(n:Nat):tab (n+1) 66=some (.pure (run n 66)):=tab_pure (by kernel_rfl) (by kernel_rfl) (by kernel_rfl)
@[simp] theorem fn_67:fnOf 67= Tryz.f67:=by kernel_rfl
@[simp] theorem lv_67_2:livesOf 67 2=[1,2,8,9,10]:=by kernel_rfl
@[simp] theorem lv_67_1000002:livesOf 67 1000002=[2,4]:=by kernel_rfl
@[simp] theorem tb_67(n:Nat):tab (n+1) 67=some (.pure (run n 67)):=tab_pure (by kernel_rfl) (by kernel_rfl) (by kernel_rfl)
@[simp] theorem fn_68:fnOf 68= Tryz.f68:=by kernel_rfl
@[simp] theorem tb_75(n:Nat):tab (n+1) 75=some (.pure (oQt)):=tab_num rfl _
@[simp] theorem tb_76(n:Nat):tab (n+1) 76=some (.pure (oN2 fun x y=>natA (lmb (val x*val y)))):=tab_num rfl _
@[simp] theorem tb_77(n:Nat):tab (n+1) 77=some (.pure (o1 fun x=>natA (unL x.l2))):=tab_num rfl _
@[simp] theorem fn_78:fnOf 78= Tryz.f78:=by kernel_rfl
@[simp] theorem lv_78_3:livesOf 78 3=[5,6,7,8,9,ph 7 0 68 4]:=by kernel_rfl
@[simp] theorem lv_78_1000003:livesOf 78 1000003=[6,7]:=by kernel_rfl
@[simp] theorem tb_78(n:Nat):tab (n+1) 78=some (.pure (run n 78)):=tab_pure (by kernel_rfl) (by kernel_rfl) (by kernel_rfl)
@[simp] theorem fn_81:fnOf 81= Tryz.f81:=by kernel_rfl
@[simp] theorem tb_81(n:Nat):tab (n+1) 81=some (.lin [true,false] (runL n 81)):=tab_lin (k:=true) (by kernel_rfl) (by kernel_rfl) (by kernel_rfl)
@[simp] theorem kp_81:keepOf 81=true:=by kernel_rfl
@[simp] theorem fn_83:fnOf 83= Tryz.f83:=by kernel_rfl
@[simp] theorem tb_83(n:Nat):tab (n+1) 83=some (.pure (run n 83)):=tab_pure (by kernel_rfl) (by kernel_rfl) (by kernel_rfl)
@[simp] theorem fn_84:fnOf 84= Tryz.f84:=by kernel_rfl
@[simp] theorem lv_84_4:livesOf 84 4=[1,3,4,11,12,13]:=by kernel_rfl
@[simp] theorem lv_84_1000004:livesOf 84 1000004=[1,3,4]:=by kernel_rfl
@[simp] theorem tb_84(n:Nat):tab (n+1) 84=some (.pure (run n 84)):=tab_pure (by kernel_rfl) (by kernel_rfl) (by kernel_rfl)
@[simp] theorem fn_86:fnOf 86= Tryz.f86:=by kernel_rfl
@[simp] theorem lv_86_4:livesOf 86 4=[1,3,5,6,7,8,9]:=by kernel_rfl
@[simp] theorem lv_86_1000004:livesOf 86 1000004=[1,3,5,6,7,8]:=by kernel_rfl
@[simp] theorem tb_86(n:Nat):tab (n+1) 86=some (.pure (run n 86)):=tab_pure (by kernel_rfl) (by kernel_rfl) (by kernel_rfl)
@[simp] theorem tb_87(n:Nat):tab (n+1) 87=some (.pure (oU fun k=>natA (lmb k))):=tab_num rfl _
@[simp] theorem tb_89(n:Nat):tab (n+1) 89=some (.pure (oND fun x y=>.tup [natA (lmb (val x / val y)),natA (lmb (val x % val y)),.lit (.int .i64 0)])):=tab_num rfl _
@[simp] theorem tb_91(n:Nat):tab (n+1) 91=some (.pure (oN1 (fun _=>true) fun x=>natA (lmb (val x)))):=tab_num rfl _
@[simp] theorem fn_92:fnOf 92= Tryz.f92:=by kernel_rfl
@[simp] theorem tb_92(n:Nat):tab (n+1) 92=some (.pure (run n 92)):=tab_pure (by kernel_rfl) (by kernel_rfl) (by kernel_rfl)
@[simp] theorem fn_93:fnOf 93= Tryz.f93:=by kernel_rfl
@[simp] theorem lv_93_1:livesOf 93 1=[0,1]:=by kernel_rfl
@[simp] theorem lv_93_1000001:livesOf 93 1000001=[0]:=by kernel_rfl
@[simp] theorem tb_93(n:Nat):tab (n+1) 93=some (.pure (run n 93)):=tab_pure (by kernel_rfl) (by kernel_rfl) (by kernel_rfl)
@[simp] theorem fn_94:fnOf 94= Tryz.f94:=by kernel_rfl
@[simp] theorem lv_94_3:livesOf 94 3=[0,3,4]:=by kernel_rfl
@[simp] theorem lv_94_7:livesOf 94 7=[0,3,5]:=by kernel_rfl
@[simp] theorem lv_94_1000003:livesOf 94 1000003=[0,3]:=by kernel_rfl
@[simp] theorem lv_94_1000007:livesOf 94 1000007=[2]:=by kernel_rfl
@[simp] theorem tb_94(n:Nat):tab (n+1) 94=some (.lin [true] (runL n 94)):=tab_lin (k:=false) (by kernel_rfl) (by kernel_rfl) (by kernel_rfl)
@[simp] theorem kp_94:keepOf 94=false:=by kernel_rfl
@[simp] theorem fn_95:fnOf 95= Tryz.f95:=by kernel_rfl
@[simp] theorem lv_95_2:livesOf 95 2=[0,3]:=by kernel_rfl
@[simp] theorem lv_95_1000002:livesOf 95 1000002=[3]:=by kernel_rfl
@[simp] theorem tb_95(n:Nat):tab (n+1) 95=some (.pure (run n 95)):=tab_pure (by kernel_rfl) (by kernel_rfl) (by kernel_rfl)
@[simp] theorem tb_102(n:Nat):tab (n+1) 102=some (.pure (oU fun k=>natA (lmb k))):=tab_num rfl _
@[simp] theorem tb_105(n:Nat):tab (n+1) 105=some (.pure (oN1 (fun _=>true) fun x=>natA (lmb (val x)))):=tab_num rfl _
@[simp] theorem tb_108(n:Nat):tab (n+1) 108=some (.pure (oND fun x y=>.tup [natA (lmb (val x / val y)),natA (lmb (val x % val y)),.lit (.int .i64 0)])):=tab_num rfl _
@[simp] theorem fn_112:fnOf 112= Tryz.f112:=by kernel_rfl
@[simp] theorem tb_112(n:Nat):tab (n+1) 112=some (.lin [true,false,false] (runL n 112)):=tab_lin (k:=true) (by kernel_rfl) (by kernel_rfl) (by kernel_rfl)
@[simp] theorem kp_112:keepOf 112=true:=by kernel_rfl
@[simp] theorem tb_113(n:Nat):tab (n+1) 113=some (.pure (oN2 fun x y=>natA (lmb (val x+val y)))):=tab_num rfl _
@[simp] theorem fn_115:fnOf 115= Tryz.f115:=by kernel_rfl
@[simp] theorem tb_115(n:Nat):tab (n+1) 115=some (.lin [false,false,true] (runL n 115)):=tab_lin (k:=false) (by kernel_rfl) (by kernel_rfl) (by kernel_rfl)
@[simp] theorem kp_115:keepOf 115=false:=by kernel_rfl
@[simp] theorem fn_116:fnOf 116= Tryz.f116:=by kernel_rfl
@[simp] theorem tb_116(n:Nat):tab (n+1) 116=some (.lin [true] (runL n 116)):=tab_lin (k:=false) (by kernel_rfl) (by kernel_rfl) (by kernel_rfl)
@[simp] theorem kp_116:keepOf 116=false:=by kernel_rfl
@[simp] theorem fn_117:fnOf 117= Tryz.f117:=by kernel_rfl
@[simp] theorem tb_117(n:Nat):tab (n+1) 117=some (.lin [true,false] (runL n 117)):=tab_lin (k:=false) (by kernel_rfl) (by kernel_rfl) (by kernel_rfl)
@[simp] theorem kp_117:keepOf 117=false:=by kernel_rfl
@[simp] theorem tb_118(n:Nat):tab (n+1) 118=some (.pure (oItoa)):=tab_num rfl _
@[simp] theorem fn_119:fnOf 119= Tryz.f119:=by kernel_rfl
@[simp] theorem tb_119(n:Nat):tab (n+1) 119=some (.pure (run n 119)):=tab_pure (by kernel_rfl) (by kernel_rfl) (by kernel_rfl)
@[simp] theorem fn_120:fnOf 120= Tryz.f120:=by kernel_rfl
@[simp] theorem tb_120(n:Nat):tab (n+1) 120=some (.lin [true] (runL n 120)):=tab_lin (k:=false) (by kernel_rfl) (by kernel_rfl) (by kernel_rfl)
@[simp] theorem kp_120:keepOf 120=false:=by kernel_rfl
@[simp] theorem tb_121(n:Nat):tab (n+1) 121=some (.pure (oN1 u64N fun x=>.tup [.lit (.int .u64 (val x:Nat)),.lit (.bool true)])):=tab_num rfl _
@[simp] theorem tb_131(n:Nat):tab (n+1) 131=some (.pure (oN1 u64N fun x=>.tup [.lit (.int .u64 (val x:Nat)),.lit (.bool true)])):=tab_num rfl _
@[simp] theorem tb_139(n:Nat):tab (n+1) 139=some (.lin [true] ccG):=tab_num rfl _
@[simp] theorem fn_141:fnOf 141= Tryz.f141:=by kernel_rfl
@[simp] theorem lv_141_5:livesOf 141 5=[0,3,4]:=by kernel_rfl
@[simp] theorem lv_141_1000005:livesOf 141 1000005=[4]:=by kernel_rfl
@[simp] theorem tb_141(n:Nat):tab (n+1) 141=some (.pure (run n 141)):=tab_pure (by kernel_rfl) (by kernel_rfl) (by kernel_rfl)
@[simp] theorem tb_146(n:Nat):tab (n+1) 146=some (.pure (oFU)):=tab_num rfl _
@[simp] theorem tb_147(n:Nat):tab (n+1) 147=some (.pure (oRepeat)):=tab_num rfl _
@[simp] theorem fn_148:fnOf 148= Tryz.f148:=by kernel_rfl
@[simp] theorem lv_148_1:livesOf 148 1=[0,2,3]:=by kernel_rfl
@[simp] theorem lv_148_1000001:livesOf 148 1000001=[]:=by kernel_rfl
@[simp] theorem tb_148(n:Nat):tab (n+1) 148=some (.lin [true] (runL n 148)):=tab_lin (k:=false) (by kernel_rfl) (by kernel_rfl) (by kernel_rfl)
@[simp] theorem kp_148:keepOf 148=false:=by kernel_rfl
@[simp] theorem tb_149(n:Nat):tab (n+1) 149=some (.pure (oJoin)):=tab_num rfl _
end
section
open Go.RowKit
def ratC(q:Rat):List AV:=[.lit (.bool (rawQ q).s),natA (rawQ q).l1,natA (rawQ q).l2]
def termC(t:Int × Rat):List AV:=[.lit (.int .i64 t.1),.lit (.bool (rawQ t.2).s),natA (rawQ t.2).l1,natA (rawQ t.2).l2]
abbrev Form:=List (Int × Rat) × Rat
def formC(f:Form):List AV:=[.sl 4 (f.1.map termC),.lit (.bool (rawQ f.2).s),natA (rawQ f.2).l1,natA (rawQ f.2).l2]
theorem roomy_s{n b:Nat}(h:n≤100000000)(hb:b≤10000):roomy n b=true:=by
 unfold roomy
 have:n*b≤100000000*10000:=Nat.mul_le_mul h hb
 rw [Bool.and_eq_true]
 exact ⟨decide_eq_true (by omega),decide_eq_true (by omega)⟩
theorem o1_rat{F:Raw→AV}{q:Rat}(h:H q≤17179869184):o1 F [ratA q]=some (F (rawQ q)):=by
 have h1:(rawQ q).few=true:=by
  have a1:(lmb q.num.natAbs).length≤H q:=Nat.le_max_left _ _
  have a2:(dlmb q.den).length≤H q:=Nat.le_trans (dlmb_len _) (Nat.le_max_right _ _)
  unfold Raw.few rawQ
  rw [Bool.and_eq_true]
  exact ⟨Nat.ble_eq_true_of_le (by dsimp only;omega),Nat.ble_eq_true_of_le (by dsimp only;omega)⟩
 simp only [o1,decR_rat,h1,if_true]
theorem o2_rat{F:Raw→Raw→AV}{p q:Rat}(hp:H p≤17179869184)(hq:H q≤17179869184):o2 F [ratA p,ratA q]=some (F (rawQ p) (rawQ q)):=by
 have few:∀{q:Rat},H q≤17179869184→(rawQ q).few=true:=fun {q} h=>by
  have a1:(lmb q.num.natAbs).length≤H q:=Nat.le_max_left _ _
  have a2:(dlmb q.den).length≤H q:=Nat.le_trans (dlmb_len _) (Nat.le_max_right _ _)
  unfold Raw.few rawQ
  rw [Bool.and_eq_true]
  exact ⟨Nat.ble_eq_true_of_le (by dsimp only;omega),Nat.ble_eq_true_of_le (by dsimp only;omega)⟩
 simp only [o2,decR_rat,few hp,few hq,Bool.and_self,if_true]
theorem o1_agg{F:Raw→AV}{q:Rat}(h:H q≤17179869184):o1 F [.agg [.lit (.bool (rawQ q).s),natA (rawQ q).l1,natA (rawQ q).l2]]=some (F (rawQ q)):=o1_rat h
theorem o2_agg{F:Raw→Raw→AV}{p q:Rat}(hp:H p≤17179869184)(hq:H q≤17179869184):o2 F [.agg [.lit (.bool (rawQ p).s),natA (rawQ p).l1,natA (rawQ p).l2],.agg [.lit (.bool (rawQ q).s),natA (rawQ q).l1,natA (rawQ q).l2]]=some (F (rawQ p) (rawQ q)):=o2_rat hp hq
noncomputable def fAdd:List AV→Option AV:=o2 fun x y=>ratA (x.q+y.q)
@[simp] theorem tn_add(n:Nat):tab n 38=some (.pure fAdd):=tab_num rfl n
@[simp] theorem tn_padd(n:Nat):tab n 110=some (.pure fAdd):=tab_num rfl n
noncomputable def fSub:List AV→Option AV:=o2 fun x y=>ratA (x.q-y.q)
@[simp] theorem tn_sub(n:Nat):tab n 57=some (.pure fSub):=tab_num rfl n
noncomputable def fMul:List AV→Option AV:=o2 fun x y=>ratA (x.q*y.q)
@[simp] theorem tn_mul(n:Nat):tab n 39=some (.pure fMul):=tab_num rfl n
@[simp] theorem tn_pmul(n:Nat):tab n 111=some (.pure fMul):=tab_num rfl n
noncomputable def fNeg:List AV→Option AV:=o1 fun x=>ratA (-x.q)
@[simp] theorem tn_neg(n:Nat):tab n 24=some (.pure fNeg):=tab_num rfl n
@[simp] theorem tn_pneg(n:Nat):tab n 47=some (.pure fNeg):=tab_num rfl n
noncomputable def fCanon:List AV→Option AV:=o1 fun x=>ratA x.q
@[simp] theorem tn_canon(n:Nat):tab n 56=some (.pure fCanon):=tab_num rfl n
@[simp] theorem tn_pcanon(n:Nat):tab n 85=some (.pure fCanon):=tab_num rfl n
noncomputable def fSign:List AV→Option AV:=o1 fun x=>.lit (.int .i64 (sgR x.q))
@[simp] theorem tn_sign(n:Nat):tab n 15=some (.pure fSign):=tab_num rfl n
@[simp] theorem tn_psign(n:Nat):tab n 35=some (.pure fSign):=tab_num rfl n
noncomputable def fCmp:List AV→Option AV:=o2 fun x y=>.lit (.int .i64 (sgR (x.q-y.q)))
@[simp] theorem tn_cmp(n:Nat):tab n 25=some (.pure fCmp):=tab_num rfl n
@[simp] theorem tn_pcmp(n:Nat):tab n 69=some (.pure fCmp):=tab_num rfl n
noncomputable def fSame:List AV→Option AV:=o2 fun x y=>.lit (.bool (decide (x.s=y.s∧x.l1=y.l1∧x.l2=y.l2)))
@[simp] theorem tn_same(n:Nat):tab n 40=some (.pure fSame):=tab_num rfl n
noncomputable def fValid:List AV→Option AV:=o1 fun x=>.lit (.bool (decide (RatV x.s x.l1 x.l2)))
@[simp] theorem tn_valid(n:Nat):tab n 52=some (.pure fValid):=tab_num rfl n
@[simp] theorem tn_pvalid(n:Nat):tab n 97=some (.pure fValid):=tab_num rfl n
noncomputable def fOf:List AV→Option AV:=oZ fun z=>ratA (z:Rat)
@[simp] theorem tn_of(n:Nat):tab n 20=some (.pure fOf):=tab_num rfl n
@[simp] theorem tn_pof(n:Nat):tab n 34=some (.pure fOf):=tab_num rfl n
noncomputable def fFrac:List AV→Option AV:=oZZ fun x y=>.tup [ratA ((x:Rat) / (y:Rat)),.lit (.int .i64 0)]
@[simp] theorem tn_frac(n:Nat):tab n 96=some (.pure fFrac):=tab_num rfl n
theorem r_add{p q:Rat}(hp:H p≤17179869184)(hq:H q≤17179869184):fAdd [.agg [.lit (.bool (rawQ p).s),natA (rawQ p).l1,natA (rawQ p).l2],.agg [.lit (.bool (rawQ q).s),natA (rawQ q).l1,natA (rawQ q).l2]]=some (.agg [.lit (.bool (rawQ (p+q)).s),natA (rawQ (p+q)).l1,natA (rawQ (p+q)).l2]):=by unfold fAdd;rw [o2_agg hp hq,rawQ_q,rawQ_q];rfl
theorem r_mul{p q:Rat}(hp:H p≤17179869184)(hq:H q≤17179869184):fMul [.agg [.lit (.bool (rawQ p).s),natA (rawQ p).l1,natA (rawQ p).l2],.agg [.lit (.bool (rawQ q).s),natA (rawQ q).l1,natA (rawQ q).l2]]=some (.agg [.lit (.bool (rawQ (p*q)).s),natA (rawQ (p*q)).l1,natA (rawQ (p*q)).l2]):=by unfold fMul;rw [o2_agg hp hq,rawQ_q,rawQ_q];rfl
theorem r_cmp{p q:Rat}(hp:H p≤17179869184)(hq:H q≤17179869184):fCmp [.agg [.lit (.bool (rawQ p).s),natA (rawQ p).l1,natA (rawQ p).l2],.agg [.lit (.bool (rawQ q).s),natA (rawQ q).l1,natA (rawQ q).l2]]=some (.lit (.int .i64 (sgR (p-q)))):=by unfold fCmp;rw [o2_agg hp hq,rawQ_q,rawQ_q]
theorem r_neg{p:Rat}(hp:H p≤17179869184):fNeg [.agg [.lit (.bool (rawQ p).s),natA (rawQ p).l1,natA (rawQ p).l2]]=some (.agg [.lit (.bool (rawQ (-p)).s),natA (rawQ (-p)).l1,natA (rawQ (-p)).l2]):=by unfold fNeg;rw [o1_agg hp,rawQ_q];rfl
theorem r_canon{p:Rat}(hp:H p≤17179869184):fCanon [.agg [.lit (.bool (rawQ p).s),natA (rawQ p).l1,natA (rawQ p).l2]]=some (.agg [.lit (.bool (rawQ p).s),natA (rawQ p).l1,natA (rawQ p).l2]):=by unfold fCanon;rw [o1_agg hp,rawQ_q];rfl
theorem r_sign{p:Rat}(hp:H p≤17179869184):fSign [.agg [.lit (.bool (rawQ p).s),natA (rawQ p).l1,natA (rawQ p).l2]]=some (.lit (.int .i64 (sgR p))):=by unfold fSign;rw [o1_agg hp,rawQ_q]
theorem rawQ_inj{p q:Rat}(h:rawQ p=rawQ q):p=q:=by rw [←rawQ_q p,h,rawQ_q]
theorem r_same{p q:Rat}(hp:H p≤17179869184)(hq:H q≤17179869184):fSame [.agg [.lit (.bool (rawQ p).s),natA (rawQ p).l1,natA (rawQ p).l2],.agg [.lit (.bool (rawQ q).s),natA (rawQ q).l1,natA (rawQ q).l2]]=some (.lit (.bool (decide (p=q)))):=by
 unfold fSame
 rw [o2_agg hp hq]
 have:(decide ((rawQ p).s=(rawQ q).s∧(rawQ p).l1=(rawQ q).l1∧(rawQ p).l2=(rawQ q).l2))=decide (p=q):=by
  apply decide_eq_decide.2
  constructor
  ·intro ⟨h1,h2,h3⟩
   apply rawQ_inj
   generalize rawQ p=a at*
   generalize rawQ q=b at*
   obtain ⟨_,_,_⟩:=a
   obtain ⟨_,_,_⟩:=b
   simp_all
  ·intro h;subst h;exact ⟨rfl,rfl,rfl⟩
 rw [this]
theorem r_of{z:Int}(h1:-9223372036854775808≤z)(h2:z≤9223372036854775807):fOf [.lit (.int .i64 z)]=some (.agg [.lit (.bool (rawQ (z:Rat)).s),natA (rawQ (z:Rat)).l1,natA (rawQ (z:Rat)).l2]):=if_pos ⟨h1,h2⟩
end
section
open Go.RowKit
@[simp] theorem z0s:(rawQ 0).s=false:=rfl
@[simp] theorem z0n:natA (rawQ 0).l1=.sl 1 []:=by
  have e:(rawQ 0).l1=[]:=by decide+kernel
  rw [e];rfl
@[simp] theorem z0d:natA (rawQ 0).l2=.sl 1 []:=by
  have e:(rawQ 0).l2=[]:=by decide+kernel
  rw [e];rfl
@[simp] def ratV(q:Rat):AV:=.agg [.lit (.bool (rawQ q).s),natA (rawQ q).l1,natA (rawQ q).l2]
@[simp] def formV(f:Form):AV:=.agg [.sl 4 (f.1.map termC),.lit (.bool (rawQ f.2).s),natA (rawQ f.2).l1,natA (rawQ f.2).l2]
attribute [simp] ratC termC formC loopsOf roomy_s
def absQ(q:Rat):Rat:=if q.num<0 then -q else q
theorem neg_nm(q:Rat):(-q).num=-q.num:=rfl
theorem neg_dn(q:Rat):(-q).den=q.den:=rfl
theorem absQ_raw(q:Rat):rawQ (absQ q)=⟨false,(rawQ q).l1,(rawQ q).l2⟩:=by
 by_cases h:q.num<0
 ·have e:absQ q=-q:=if_pos h
  have e2:decide (-q.num<0)=false:=decide_eq_false (by omega)
  rw [e]
  unfold rawQ
  rw [neg_nm,neg_dn,Int.natAbs_neg,e2]
 ·have e:absQ q=q:=if_neg h
  have e2:decide (q.num<0)=false:=decide_eq_false h
  rw [e]
  unfold rawQ
  rw [e2]
@[simp] theorem absQ_s(q:Rat):(rawQ (absQ q)).s=false:=by rw [absQ_raw]
@[simp] theorem absQ_n(q:Rat):(rawQ (absQ q)).l1=(rawQ q).l1:=by rw [absQ_raw]
@[simp] theorem absQ_d(q:Rat):(rawQ (absQ q)).l2=(rawQ q).l2:=by rw [absQ_raw]
theorem absQ_H(q:Rat):H (absQ q)=H q:=by
 unfold absQ
 split
 ·unfold H
  rw [neg_nm,neg_dn,Int.natAbs_neg]
 ·rfl
def InI(z:Int):Prop:=-9223372036854775808≤z∧z≤9223372036854775807
theorem r_valid{p:Rat}(hp:H p≤17179869184):fValid [.agg [.lit (.bool (rawQ p).s),natA (rawQ p).l1,natA (rawQ p).l2]]=some (.lit (.bool true)):=by
 unfold fValid
 rw [o1_agg hp]
 have e:RatV (rawQ p).s (rawQ p).l1 (rawQ p).l2:=by
  have h:sv (rawQ p).s (rawQ p).l1 (rawQ p).l2=p:=rawQ_q p
  unfold RatV
  rw [h]
  exact ⟨rfl,rfl,rfl⟩
 simp [e]
@[simp] def intI64C(z:Int):List AV:=[.lit (.int .i64 z)]
@[simp] def intU8C(z:Int):List AV:=[.lit (.int .u8 z)]
@[simp] def intU32C(z:Int):List AV:=[.lit (.int .u32 z)]
@[simp] def boolC(b:Bool):List AV:=[.lit (.bool b)]
@[simp] def strC(s:ByteArray):List AV:=[.lit (.string s)]
def fracQ(x y:Int):Rat:=(x:Rat) / (y:Rat)
def ofQ(z:Int):Rat:=(z:Rat)
theorem r_frac{x y:Int}(hx:-9223372036854775808≤x∧x≤9223372036854775807)(hy:-9223372036854775808≤y∧y≤9223372036854775807)(h0:y≠0):
  fFrac [.lit (.int .i64 x),.lit (.int .i64 y)]=some (.tup [.agg [.lit (.bool (rawQ (fracQ x y)).s),natA (rawQ (fracQ x y)).l1,natA (rawQ (fracQ x y)).l2],.lit (.int .i64 0)]):=if_pos ⟨hx,hy,h0⟩
theorem r_ofq{z:Int}(h1:-9223372036854775808≤z)(h2:z≤9223372036854775807):fOf [.lit (.int .i64 z)]=some (.agg [.lit (.bool (rawQ (ofQ z)).s),natA (rawQ (ofQ z)).l1,natA (rawQ (ofQ z)).l2]):=r_of h1 h2
@[simp] theorem okE_ratC(l:List Rat):okEls 3 (l.map ratC)=true:=okEls_map (fun x=>by simp) l
@[simp] theorem okE_termC(l:List (Int × Rat)):okEls 4 (l.map termC)=true:=okEls_map (fun x=>by simp) l
@[simp] theorem okE_formC(l:List Form):okEls 4 (l.map formC)=true:=okEls_map (fun x=>by simp) l
@[simp] theorem okE_intI64C(l:List Int):okEls 1 (l.map intI64C)=true:=okEls_map (fun x=>by simp) l
@[simp] theorem okE_intU8C(l:List Int):okEls 1 (l.map intU8C)=true:=okEls_map (fun x=>by simp) l
@[simp] theorem okE_boolC(l:List Bool):okEls 1 (l.map boolC)=true:=okEls_map (fun x=>by simp) l
@[simp] theorem okE_strC(l:List ByteArray):okEls 1 (l.map strC)=true:=okEls_map (fun x=>by simp) l
section
variable {α β γ : Type} {P : Program} {O : FuncId → Option Orc} {m N : Nat} {lives : Nat → List Nat} {r : Nat} {C : Code} {M : Nat} {L : List α} {enc : Nat → β → St} {exN exE : Ex}
noncomputable def loopG(P:Program)(O:FuncId→Option Orc)(m N:Nat)(lives:Nat→List Nat)(r:Nat)(C:Code)(e:St):Option (Ex × St):=
 match (match exec P O m N lives big C e with
  | some (.nrm,s')=>loopS m (exec P O m N lives big C) (lives r) 4294967295 s'
  | x=>x) with
 | some (ex,s')=>(match gc m (lives (outOf r)) s' with|some s2=>some (ex,s2)|none=>none)
 | none=>none
theorem loopX_G{C':Code}{s e:St}(hC:C=C')(hg:gc m (lives r) s=some e):loopX P O m N lives big r C s=loopG P O m N lives r C' e:=by
 subst hC
 unfold loopX loopG
 have hb:loopS m (exec P O m N lives big C) (lives r) big s=loopS m (exec P O m N lives big C) (lives r) (4294967295+1) s:=rfl
 rw [hb,loopS,hg]
 dsimp only
 cases exec P O m N lives big C e with
 | none=>rfl
 | some p=>
   obtain ⟨ex,s1⟩:=p
   cases ex <;>rfl
theorem loopS_Q{live outL:List Nat}{step:St→Option (Ex × St)}{Inv:Nat→β→Prop}{Q:Ex→St→Prop}(hstep:∀i b,i<M→Inv i b→(∃b',Cont m step live (enc i b) (enc (i+1) b')∧Inv (i+1) b')∨(∃ex t,ex≠.nrm∧Leave m step outL (enc i b) ex t∧Q ex t))(hend:∀b,Inv M b→∃ex t,ex≠.nrm∧Leave m step outL (enc M b) ex t∧Q ex t):
  ∀(k i n:Nat) (b:β),i+k=M→k≤n→Inv i b→∃ex s' t,(match step (enc i b) with|some (.nrm,s')=>loopS m step live n s'|x=>x)=some (ex,s')∧gc m outL s'=some t∧Q ex t
 | 0,i,n,b,hi,hn,hI=>by
   obtain rfl:i=M:=by omega
   obtain ⟨ex,t,h0,⟨s',h1,h2⟩,h3⟩:=hend b hI
   refine ⟨ex,s',t,?_,h2,h3⟩
   rw [h1]
   cases ex <;>first|exact absurd rfl h0|rfl
 | k+1,i,n,b,hi,hn,hI=>by
   rcases hstep i b (by omega) hI with ⟨b',⟨s1,h1,h2⟩,h3⟩|⟨ex,t,h0,⟨s',h1,h2⟩,h3⟩
   ·obtain ⟨ex,s',t,h4,h5,h6⟩:=loopS_Q hstep hend k (i+1) (n-1) b' (by omega) (by omega) h3
    refine ⟨ex,s',t,?_,h5,h6⟩
    rw [h1]
    have e:n=(n-1)+1:=by omega
    rw [e]
    dsimp only
    rw [loopS,h2]
    exact h4
   ·refine ⟨ex,s',t,?_,h2,h3⟩
    rw [h1]
    cases ex <;>first|exact absurd rfl h0|rfl
theorem loopG_Q(Inv:Nat→β→Prop)(Q:Ex→St→Prop)(b:β)(hI:Inv 0 b)(hn:M≤4294967295)(hstep:∀i b,i<M→Inv i b→(∃b',Cont m (exec P O m N lives big C) (lives r) (enc i b) (enc (i+1) b')∧Inv (i+1) b')∨(∃ex t,ex≠.nrm∧Leave m (exec P O m N lives big C) (lives (outOf r)) (enc i b) ex t∧Q ex t))(hend:∀b,Inv M b→∃ex t,ex≠.nrm∧Leave m (exec P O m N lives big C) (lives (outOf r)) (enc M b) ex t∧Q ex t):
  ∃ex t,loopG P O m N lives r C (enc 0 b)=some (ex,t)∧Q ex t:=by
 obtain ⟨ex,s',t,h1,h2,h3⟩:=loopS_Q hstep hend M 0 4294967295 b (by omega) hn hI
 refine ⟨ex,t,?_,h3⟩
 unfold loopG
 rw [h1]
 simp only [h2]
theorem loopG_R(Inv:Nat→β→Prop){out:β→St}(b:β)(hI:Inv 0 b)(hn:M≤4294967295)(hN:exN≠.nrm)(hstep:∀i b,i<M→Inv i b→∃b',Cont m (exec P O m N lives big C) (lives r) (enc i b) (enc (i+1) b')∧Inv (i+1) b')(hend:∀b,Inv M b→Leave m (exec P O m N lives big C) (lives (outOf r)) (enc M b) exN (out b)):
  ∃b',loopG P O m N lives r C (enc 0 b)=some (exN,out b')∧Inv M b':=by
 obtain ⟨ex,t,h1,b',rfl,rfl,h3⟩:=loopG_Q (m:=m) (C:=C) (P:=P) (O:=O) (N:=N) Inv (fun ex t=>∃b',ex=exN∧t=out b'∧Inv M b') b hI hn (fun i b hi hI=>.inl (hstep i b hi hI)) (fun b hI=>⟨exN,out b,hN,hend b hI,b,rfl,rfl,hI⟩)
 exact ⟨b',h1,h3⟩
theorem loopG_E {f:Nat→β→α→Except γ β} {out:β→St} {outE:γ→St} {Inv:Nat→β→Prop} (b:β) (hI:Inv 0 b) (hn:L.length≤4294967295) (hN:exN≠.nrm) (hE:exE≠.nrm) (hstep:∀i x b,L[i]?=some x→Inv i b→match f i b x with
   | .ok b'=>Cont m (exec P O m N lives big C) (lives r) (enc i b) (enc (i+1) b')∧Inv (i+1) b'
   | .error c=>Leave m (exec P O m N lives big C) (lives (outOf r)) (enc i b) exE (outE c)) (hend:∀b,Inv L.length b→Leave m (exec P O m N lives big C) (lives (outOf r)) (enc L.length b) exN (out b)):
  loopG P O m N lives r C (enc 0 b)=some (endE (foldE f 0 b L) exN out exE outE)∧∀b',foldE f 0 b L=.ok b'→Inv L.length b':=by
 obtain ⟨ex,t,h1,h2,h3⟩:=loopG_Q (m:=m) (C:=C) (P:=P) (O:=O) (N:=N) (lives:=lives) (r:=r) (enc:=enc) (M:=L.length) (fun i b'=>Inv i b'∧foldE f i b' (L.drop i)=foldE f 0 b L)
  (fun ex t=>(ex,t)=endE (foldE f 0 b L) exN out exE outE∧∀b',foldE f 0 b L=.ok b'→Inv L.length b') b ⟨hI,rfl⟩ hn
  (fun i b' hi ⟨hI,hf⟩=>by
   have hx:L[i]?=some L[i]:=List.getElem?_eq_getElem hi
   have hd:L.drop i=L[i]::L.drop (i+1):=List.drop_eq_getElem_cons hi
   have h4:=hstep i _ b' hx hI
   rw [hd,foldE] at hf
   split at h4
   ·rename_i b2 he
    rw [he] at hf
    exact .inl ⟨b2,h4.1,h4.2,hf⟩
   ·rename_i c he
    rw [he] at hf
    exact .inr ⟨exE,outE c,hE,h4,by rw [←hf];rfl,fun b' h=>by rw [←hf] at h;cases h⟩)
  (fun b' ⟨hI,hf⟩=>by
   rw [List.drop_length,foldE] at hf
   exact ⟨exN,out b',hN,hend b' hI,by rw [←hf];rfl,fun b2 h=>by rw [←hf] at h;cases h;exact hI⟩)
 rw [h1,h2]
 exact ⟨rfl,h3⟩
theorem loopG_I{f:Nat→β→α→β}{out:β→St}{Inv:Nat→β→Prop}(b:β)(hI:Inv 0 b)(hn:L.length≤4294967295)(hN:exN≠.nrm)(hstep:∀i x b,L[i]?=some x→Inv i b→Cont m (exec P O m N lives big C) (lives r) (enc i b) (enc (i+1) (f i b x))∧Inv (i+1) (f i b x))(hend:∀b,Inv L.length b→Leave m (exec P O m N lives big C) (lives (outOf r)) (enc L.length b) exN (out b)):
  loopG P O m N lives r C (enc 0 b)=some (exN,out (foldI f 0 b L))∧Inv L.length (foldI f 0 b L):=by
 have key:∀(R:List α) (i:Nat) (b:β),foldE (γ:=Empty) (fun i b x=>.ok (f i b x)) i b R=.ok (foldI f i b R):=fun R=>by
  induction R with
  | nil=>intro i b;rfl
  | cons x R ih=>intro i b;exact ih (i+1) (f i b x)
 have h:=loopG_E (γ:=Empty) (f:=fun i b x=>.ok (f i b x)) (exE:=.ret) (outE:=fun c=>c.elim) (P:=P) (O:=O) (m:=m) (N:=N) (lives:=lives) (r:=r) (C:=C) b hI hn hN (fun h=>by cases h) hstep hend
 rw [key] at h
 exact ⟨h.1,h.2 _ rfl⟩
end
theorem loopG_all{P:Program}{O:FuncId→Option Orc}{m N:Nat}{lives:Nat→List Nat}{r:Nat}{C:Code}{M:Nat}{enc:Nat→St}{p:Nat→Bool}{exN exE:Ex}{out outE:St}(hn:M≤4294967295)(hN:exN≠.nrm)(hE:exE≠.nrm)(hstep:∀i,i<M→(∀j,j<i→p j=true)→(p i=true→Cont m (exec P O m N lives big C) (lives r) (enc i) (enc (i+1)))∧(p i=false→Leave m (exec P O m N lives big C) (lives (outOf r)) (enc i) exE outE))(hend:Leave m (exec P O m N lives big C) (lives (outOf r)) (enc M) exN out):
  loopG P O m N lives r C (enc 0)=some (if ∀i,i<M→p i=true then (exN,out) else (exE,outE)):=by
 obtain ⟨ex,t,h1,h2⟩:=loopG_Q (β:=Unit) (m:=m) (C:=C) (P:=P) (O:=O) (N:=N) (lives:=lives) (r:=r) (M:=M) (enc:=fun i _=>enc i) (fun i _=>∀j,j<i→p j=true) (fun ex t=>(ex,t)=if ∀i,i<M→p i=true then (exN,out) else (exE,outE)) () (fun j hj=>absurd hj (by omega)) hn
  (fun i b hi hI=>by
   cases hp:p i with
   | true=>exact .inl ⟨(),(hstep i hi hI).1 hp,fun j hj=>by rcases Nat.lt_succ_iff_lt_or_eq.1 hj with h|rfl;exact hI j h;exact hp⟩
   | false=>
     refine .inr ⟨exE,outE,hE,(hstep i hi hI).2 hp,?_⟩
     rw [if_neg]
     intro h
     rw [h i hi] at hp;cases hp)
  (fun b hI=>⟨exN,out,hN,hend,by rw [if_pos hI]⟩)
 rw [h1,h2]
structure RawB (r:Raw):Prop where
 n:Lim r.l1
 d:Lim r.l2
 bn:r.l1.length≤17179869184
 bd:r.l2.length≤17179869184
theorem RawB.few{r:Raw}(h:RawB r):r.few=true:=by
 unfold Raw.few
 rw [Bool.and_eq_true]
 exact ⟨Nat.ble_eq_true_of_le h.bn,Nat.ble_eq_true_of_le h.bd⟩
theorem rawB_q{q:Rat}(h:H q≤17179869184):RawB (rawQ q):=by
 have a1:(lmb q.num.natAbs).length≤H q:=Nat.le_max_left _ _
 have a2:(dlmb q.den).length≤H q:=Nat.le_trans (dlmb_len _) (Nat.le_max_right _ _)
 exact ⟨lim_lmb _,lim_dlmb _,Nat.le_trans a1 h,Nat.le_trans a2 h⟩
theorem rr_1{F:Raw→AV}{r:Raw}(h:RawB r):o1 F [.agg [.lit (.bool r.s),natA r.l1,natA r.l2]]=some (F r):=by
 have h1:decR (.agg [.lit (.bool r.s),natA r.l1,natA r.l2])=some r:=decR_av h.n h.d
 simp only [o1,h1,h.few,if_true]
theorem rr_valid{r:Raw}(h:RawB r):fValid [.agg [.lit (.bool r.s),natA r.l1,natA r.l2]]=some (.lit (.bool (decide (RatV r.s r.l1 r.l2)))):=rr_1 h
theorem rr_sign{r:Raw}(h:RawB r):fSign [.agg [.lit (.bool r.s),natA r.l1,natA r.l2]]=some (.lit (.int .i64 (sgR r.q))):=rr_1 h
@[simp] def rawC(r:Raw):List AV:=[.lit (.bool r.s),natA r.l1,natA r.l2]
@[simp] def termRC(t:Int × Raw):List AV:=[.lit (.int .i64 t.1),.lit (.bool t.2.s),natA t.2.l1,natA t.2.l2]
abbrev FormR:=List (Int × Raw) × Raw
@[simp] def formRC(f:FormR):List AV:=[.sl 4 (f.1.map termRC),.lit (.bool f.2.s),natA f.2.l1,natA f.2.l2]
@[simp] theorem okE_rawC(l:List Raw):okEls 3 (l.map rawC)=true:=okEls_map (fun x=>by simp) l
@[simp] theorem okE_termRC(l:List (Int × Raw)):okEls 4 (l.map termRC)=true:=okEls_map (fun x=>by simp) l
@[simp] theorem okE_formRC(l:List FormR):okEls 4 (l.map formRC)=true:=okEls_map (fun x=>by simp) l
structure Trow where
 c:List Int
 from_:Int
@[simp] def rowC(g:Trow):List AV:=[.sl 1 (g.c.map intI64C),.lit (.int .u64 (g.from_))]
@[simp] def rowV(g:Trow):AV:=.agg [.sl 1 (g.c.map intI64C),.lit (.int .u64 (g.from_))]
@[simp] theorem okE_rowC(l:List Trow):okEls 2 (l.map rowC)=true:=okEls_map (fun x=>by simp) l
structure TInt where
 Neg:Bool
 Mag:List Nat
@[simp] def intC(g:TInt):List AV:=[.lit (.bool g.Neg),natA g.Mag]
@[simp] def intV(g:TInt):AV:=.agg [.lit (.bool g.Neg),natA g.Mag]
@[simp] theorem okE_intC(l:List TInt):okEls 2 (l.map intC)=true:=okEls_map (fun x=>by simp) l
structure TProgram where
 Vars:Int
 Rows:List Form
 Objective:Form
@[simp] def programC(g:TProgram):List AV:=[.lit (.int .i64 (g.Vars)),.sl 4 (g.Rows.map formC),.sl 4 (g.Objective.1.map termC),.lit (.bool (rawQ g.Objective.2).s),natA (rawQ g.Objective.2).l1,natA (rawQ g.Objective.2).l2]
@[simp] def programV(g:TProgram):AV:=.agg [.lit (.int .i64 (g.Vars)),.sl 4 (g.Rows.map formC),.sl 4 (g.Objective.1.map termC),.lit (.bool (rawQ g.Objective.2).s),natA (rawQ g.Objective.2).l1,natA (rawQ g.Objective.2).l2]
@[simp] theorem okE_programC(l:List TProgram):okEls 6 (l.map programC)=true:=okEls_map (fun x=>by simp) l
structure TProgramR where
 Vars:Int
 Rows:List FormR
 Objective:FormR
@[simp] def programRC(g:TProgramR):List AV:=[.lit (.int .i64 (g.Vars)),.sl 4 (g.Rows.map formRC),.sl 4 (g.Objective.1.map termRC),.lit (.bool g.Objective.2.s),natA g.Objective.2.l1,natA g.Objective.2.l2]
@[simp] def programRV(g:TProgramR):AV:=.agg [.lit (.int .i64 (g.Vars)),.sl 4 (g.Rows.map formRC),.sl 4 (g.Objective.1.map termRC),.lit (.bool g.Objective.2.s),natA g.Objective.2.l1,natA g.Objective.2.l2]
@[simp] theorem okE_programRC(l:List TProgramR):okEls 6 (l.map programRC)=true:=okEls_map (fun x=>by simp) l
end
end Go.Proofs.YtdaonnnlgfhlaaaGreatDoor
