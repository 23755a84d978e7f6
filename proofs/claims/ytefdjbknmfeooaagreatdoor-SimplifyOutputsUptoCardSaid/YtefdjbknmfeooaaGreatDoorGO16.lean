import Derived.Test.YtefdjbknmfeooaaGreatDoorGO15
import Derived.Test.YtefdjbknmfeooaaGreatDoorGO13
import Derived.Test.YtefdjbknmfeooaaGreatDoorGO8
set_option linter.all false
set_option maxRecDepth 100000
namespace Go.Proofs.YtefdjbknmfeooaaGreatDoor
open Go.RowKit
def livesT:List (Nat × List (Nat × List Nat)):=[(7,[(4,[1,2,5]),(11,[1,2,6,7,8,9]),(1000004,[1,2,4]),(1000011,[4])]),(8,[(6,[3,4,5]),(11,[3,4,5,6]),(1000006,[2,3]),(1000011,[2,3,4,5])]),(9,[(6,[1,3,4,5]),(1000006,[1,2,3])]),(14,[(4,[1,2,3]),(1000004,[1,2])]),(16,[(1,[1,2]),(1000001,[2])]),(18,[(4,[1,2,3]),(6,[1,2,3,4]),(1000004,[1,2]),(1000006,[1,2,3,4])]),(20,[(4,[1,2,3]),(1000004,[1,2])]),(21,[(4,[1,3]),(1000004,[1,2])]),(22,[(2,[0,3]),(1000002,[2])]),(24,[(4,[0,1,5]),(1000004,[4])]),(25,[(3,[1,3,4]),(7,[1,3,4,5,6]),(11,[1,3,4,5,7]),(1000003,[3]),(1000007,[1,3,4,5]),(1000011,[1,3,4])]),(26,[(4,[2,3,5]),(1000004,[4])]),(27,[(3,[0,3,4]),(1000003,[3])]),(28,[(4,[0,1,5]),(1000004,[4])]),(31,[(3,[3,4,5,6]),(1000003,[4,5])]),(33,[(2,[0,3]),(7,[0,3,4]),(1000002,[2]),(1000007,[0,2,3])]),(34,[(4,[0,1,5]),(1000004,[4])]),(35,[(2,[1,2,3]),(1000002,[1,2])]),(37,[(4,[1,3,5,6,7,8,9,ph 8 1 45 4]),(11,[3,5,6,7,8,10,ph 8 2 45 4]),(1000004,[3,5,6,7,8]),(1000011,[6,8])]),(39,[(1,[1,2,4]),(3,[1,2,4,5,11,12,13]),(1000001,[2,4]),(1000003,[1,2,4,5])]),(40,[(3,[1,2,3,4]),(1000003,[1,2])]),(41,[(4,[1,2,3,4,17,18,19]),(9,[1,2,3,4]),(14,[1,2]),(1000004,[1,2,3,4])]),(42,[(4,[2,3,5]),(1000004,[4])]),(43,[(2,[1,2,5]),(1000002,[2,4])]),(44,[(2,[0,1,5]),(1000002,[4])]),(46,[(6,[1,8,10,11]),(1000006,[10])]),(48,[(2,[1,2,5]),(1000002,[4])]),(50,[(3,[2,3,4,5,6,ph 5 0 57 4]),(1000003,[4,5])]),(52,[(4,[1,3,5,6,7,8,9]),(1000004,[1,3,5,6,7,8])]),(56,[(4,[1,32,33,34]),(1000004,[1,2])]),(58,[(3,[1,2,4,5,6,ph 5 0 57 4]),(1000003,[4,5])]),(62,[(4,[1,3,4,11,12,13]),(1000004,[1,3,4])]),(64,[(2,[1,2,7,8,9]),(1000002,[])]),(68,[(5,[1,2,6,7]),(9,[2,6,8]),(1000005,[2,6]),(1000009,[6])]),(69,[(3,[1,2,4,6,7]),(1000003,[4,5,6])]),(70,[(4,[0,1,5]),(1000004,[4])]),(71,[(4,[0,1,5]),(1000004,[4])]),(74,[(3,[0,1,5,6]),(7,[0,1,5,6,7,8]),(1000003,[5]),(1000007,[0,1,5,6])]),(80,[(3,[1,5,7,12,13,14]),(8,[1,5,7,9,12,13,14,27,28,29]),(1000003,[7]),(1000008,[1,5,7,9,12,13,14])]),(83,[(2,[1,2,8,9,10]),(1000002,[2,4])]),(85,[(2,[1,2,4,5]),(1000002,[4])]),(96,[(1,[0,1,3]),(1000001,[])]),(97,[(1,[0,1,3]),(1000001,[])]),(100,[(2,[0,3]),(1000002,[0,3])]),(101,[(4,[0,1,5,6,7]),(1000004,[5,6])]),(102,[(6,[0,1,6,7,8]),(1000006,[6])]),(103,[(2,[0,1]),(1000002,[0])]),(104,[(9,[0,1,11,12,13]),(1000009,[11,12])]),(105,[(4,[1,5,6,7,8,16,17,18,ph 7 0 57 4,ph 8 1 0 0,ph 8 2 0 0]),(1000004,[5,6,7,8])]),(117,[(5,[0,3,4]),(1000005,[4])]),(120,[(2,[0,1,5]),(1000002,[4])]),(122,[(6,[3,4]),(1000006,[3])]),(123,[(4,[0,1,5,6,7]),(1000004,[5,6])]),(124,[(3,[5,6,7,8,9,ph 7 0 57 4]),(1000003,[6,7])]),(128,[(7,[0,1,5]),(1000007,[4])]),(131,[(2,[0,1]),(10,[11,13]),(1000002,[0,1]),(1000010,[11])]),(132,[(13,[9,10,11,12,13]),(1000013,[9,10,12])]),(135,[(2,[0,1,7,8]),(1000002,[4])]),(138,[(6,[4,12,13,14]),(1000006,[4])]),(140,[(38,[7,8,9]),(1000038,[9])]),(141,[(1,[0,2,3]),(1000001,[])]),(142,[(12,[0,1,5,39,40,41]),(22,[1,8,63,64,65]),(1000012,[0,1,5]),(1000022,[8])]),(143,[(2,[0,3]),(1000002,[0,3])]),(148,[(6,[1,5,29,30,31]),(10,[1,5,6,7,8,29,30,31,36,37,38]),(1000006,[5]),(1000010,[1,5,6,8,29,30,31])]),(150,[(4,[0,1,6,7,8]),(1000004,[6,7])]),(152,[(3,[1,5,13,14,15]),(1000003,[5])]),(153,[(3,[0,1,2,7,8,15,16,17]),(17,[0,1,2,7,70,71,72]),(1000003,[0,1,2,7,8]),(1000017,[0,1,2,7])]),(154,[(4,[0,1,5,7,8]),(1000004,[7])]),(155,[(9,[0,1,6,30,31,32]),(1000009,[6])]),(159,[(1,[0,1,4]),(1000001,[0,1,4])]),(160,[(11,[0,1,3,4,10,11,12,13,14,15,16]),(18,[0,1,3,4,10,11,12,13,17]),(1000011,[0,1,3,4,10,11,12,13]),(1000018,[0,1,3,4,10,11,12,13])]),(175,[(7,[0,1,5,6,24,25,26]),(1000007,[0,5,6])]),(176,[(7,[1,6,7,22,23,24]),(1000007,[6])])]
def livesOf(f:FuncId):Nat→List Nat:=lv ((livesT.lookup f).getD [])
def modesT:List (Nat × (List Bool × Bool)):=[(64,([false,true,true],false)),(73,([true,false],true)),(88,([false,false,true],false)),(89,([true],false)),(90,([true,false],false)),(93,([true],false)),(115,([true],false)),(141,([true],false)),(146,([true,false,false],true)),(153,([true,false,false],false)),(159,([true,false],false)),(160,([true,false,false,false,false],true)),(164,([true,false],false)),(174,([true,false],false)),(188,([true],false)),(189,([true],false)),(190,([true],false)),(191,([true],false)),(192,([true],false)),(195,([true],false))]
noncomputable def fnOf(f:FuncId):Func:=(Tryz.prog.funcs[f]?).getD default
def keepOf(f:FuncId):Bool:=((modesT.lookup f).getD ([],false)).2
noncomputable def tab:Nat→FuncId→Option Orc
 | 0,f=>orc0 f
 | n+1,f=>match orc0 f with
   | some x=>some x
   | none=>match plainF Tryz.prog f with
     | true=>(match modesT.lookup f with
       | some (ms,k)=>some (.lin ms (fnL Tryz.prog (tab n) (livesOf f) big (fnOf f) (keepOf f)))
       | none=>some (.pure (fnP Tryz.prog (tab n) (livesOf f) big (fnOf f))))
     | false=>none
theorem plain_fn{f:FuncId}(h:plainF Tryz.prog f=true): Tryz.prog.funcs[f]?=some (fnOf f):=by
 unfold plainF at h
 unfold fnOf
 split at h
 ·rename_i fn hf;rw [hf];rfl
 ·cases h
theorem tab_ok:∀n,OrcOk Tryz.prog (tab n)
 | 0=>orc0_ok
 | n+1=>by
   have key:∀f x,tab (n+1) f=some x→(orc0 f=some x)∨(plainF Tryz.prog f=true∧((∃(ms:List Bool) (k:Bool),x=.lin ms (fnL Tryz.prog (tab n) (livesOf f) big (fnOf f) (keepOf f)))∨x=.pure (fnP Tryz.prog (tab n) (livesOf f) big (fnOf f)))):=fun f x h=>by
    unfold tab at h
    split at h
    ·rename_i y hy;cases h;exact .inl hy
    ·split at h
     ·rename_i hp
      split at h
      ·cases h;exact .inr ⟨hp,.inl ⟨_,false,rfl⟩⟩
      ·cases h;exact .inr ⟨hp,.inr rfl⟩
     ·cases h
   refine ⟨fun f g h=>?_,fun f ms g h=>?_⟩
   ·rcases key f _ h with h|⟨hp,⟨ms,k,h⟩|h⟩
    ·exact orc0_ok.pure f g h
    ·cases h
    ·cases h
     exact ⟨hp,fun args r hr=>con_of (tab_ok n) mixed (plain_fn hp) (body_some hp (plain_fn hp)) hr⟩
   ·rcases key f _ h with h|⟨hp,⟨ms,k,h⟩|h⟩
    ·exact orc0_ok.lin f ms g h
    ·cases h
     exact ⟨hp,fun bin args r outs hr=>conL_of (tab_ok n) mixed (plain_fn hp) (body_some hp (plain_fn hp)) hr⟩
    ·cases h
noncomputable def run(n:Nat)(f:FuncId)(args:List AV):Option AV:=fnP Tryz.prog (tab n) (livesOf f) big (fnOf f) args
noncomputable def runL(n:Nat)(f:FuncId)(args:List AV)(bin:List AB):Option (AV × List (Nat × AB)):=fnL Tryz.prog (tab n) (livesOf f) big (fnOf f) (keepOf f) args bin
theorem tab_pure{n:Nat}{f:FuncId}(h0:orc0 f=none)(hp:plainF Tryz.prog f=true)(hm:modesT.lookup f=none):tab (n+1) f=some (.pure (run n f)):=by
 unfold tab
 rw [h0]
 simp only [hp,hm]
 rfl
theorem tab_lin{n:Nat}{f:FuncId}{ms:List Bool}{k:Bool}(h0:orc0 f=none)(hp:plainF Tryz.prog f=true)(hm:modesT.lookup f=some (ms,k)):tab (n+1) f=some (.lin ms (runL n f)):=by
 unfold tab
 rw [h0]
 simp only [hp,hm]
 rfl
theorem tab_num{f:FuncId}{x:Orc}(h:orc0 f=some x):∀n,tab n f=some x
 | 0=>h
 | n+1=>by unfold tab;rw [h]
@[simp] theorem fn_7:fnOf 7= Tryz.f7:=by kernel_rfl
@[simp] theorem lv_7_4:livesOf 7 4=[1,2,5]:=by kernel_rfl
@[simp] theorem lv_7_11:livesOf 7 11=[1,2,6,7,8,9]:=by kernel_rfl
@[simp] theorem lv_7_1000004:livesOf 7 1000004=[1,2,4]:=by kernel_rfl
@[simp] theorem lv_7_1000011:livesOf 7 1000011=[4]:=by kernel_rfl
@[simp] theorem tb_10(n:Nat):tab (n+1) 10=some (.pure (run n 10)):=tab_pure (by kernel_rfl) (by kernel_rfl) (by kernel_rfl)
@[simp] theorem fn_11:fnOf 11= Tryz.f11:=by kernel_rfl
@[simp] theorem tb_11(n:Nat):tab (n+1) 11=some (.pure (run n 11)):=tab_pure (by kernel_rfl) (by kernel_rfl) (by kernel_rfl)
@[simp] theorem fn_13:fnOf 13= Tryz.f13:=by kernel_rfl
@[simp] theorem tb_13(n:Nat):tab (n+1) 13=some (.pure (run n 13)):=tab_pure (by kernel_rfl) (by kernel_rfl) (by kernel_rfl)
@[simp] theorem fn_14:fnOf 14= Tryz.f14:=by kernel_rfl
@[simp] theorem lv_14_4:livesOf 14 4=[1,2,3]:=by kernel_rfl
@[simp] theorem lv_14_1000004:livesOf 14 1000004=[1,2]:=by kernel_rfl
@[simp] theorem tb_14(n:Nat):tab (n+1) 14=some (.pure (run n 14)):=tab_pure (by kernel_rfl) (by kernel_rfl) (by kernel_rfl)
@[simp] theorem fn_15:fnOf 15= Tryz.f15:=by kernel_rfl
@[simp] theorem tb_15(n:Nat):tab (n+1) 15=some (.pure (run n 15)):=tab_pure (by kernel_rfl) (by kernel_rfl) (by kernel_rfl)
@[simp] theorem fn_16:fnOf 16= Tryz.f16:=by kernel_rfl
@[simp] theorem lv_16_1:livesOf 16 1=[1,2]:=by kernel_rfl
@[simp] theorem lv_16_1000001:livesOf 16 1000001=[2]:=by kernel_rfl
@[simp] theorem fn_17:fnOf 17= Tryz.f17:=by kernel_rfl
@[simp] theorem tb_17(n:Nat):tab (n+1) 17=some (.pure (run n 17)):=tab_pure (by kernel_rfl) (by kernel_rfl) (by kernel_rfl)
@[simp] theorem fn_18:fnOf 18= Tryz.f18:=by kernel_rfl
@[simp] theorem lv_18_4:livesOf 18 4=[1,2,3]:=by kernel_rfl
@[simp] theorem lv_18_6:livesOf 18 6=[1,2,3,4]:=by kernel_rfl
@[simp] theorem lv_18_1000004:livesOf 18 1000004=[1,2]:=by kernel_rfl
@[simp] theorem lv_18_1000006:livesOf 18 1000006=[1,2,3,4]:=by kernel_rfl
@[simp] theorem tb_18(n:Nat):tab (n+1) 18=some (.pure (run n 18)):=tab_pure (by kernel_rfl) (by kernel_rfl) (by kernel_rfl)
@[simp] theorem fn_19:fnOf 19= Tryz.f19:=by kernel_rfl
@[simp] theorem tb_19(n:Nat):tab (n+1) 19=some (.pure (run n 19)):=tab_pure (by kernel_rfl) (by kernel_rfl) (by kernel_rfl)
@[simp] theorem fn_20:fnOf 20= Tryz.f20:=by kernel_rfl
@[simp] theorem lv_20_4:livesOf 20 4=[1,2,3]:=by kernel_rfl
@[simp] theorem lv_20_1000004:livesOf 20 1000004=[1,2]:=by kernel_rfl
@[simp] theorem tb_20(n:Nat):tab (n+1) 20=some (.pure (run n 20)):=tab_pure (by kernel_rfl) (by kernel_rfl) (by kernel_rfl)
@[simp] theorem fn_21:fnOf 21= Tryz.f21:=by kernel_rfl
@[simp] theorem lv_21_4:livesOf 21 4=[1,3]:=by kernel_rfl
@[simp] theorem lv_21_1000004:livesOf 21 1000004=[1,2]:=by kernel_rfl
@[simp] theorem tb_21(n:Nat):tab (n+1) 21=some (.pure (run n 21)):=tab_pure (by kernel_rfl) (by kernel_rfl) (by kernel_rfl)
@[simp] theorem fn_22:fnOf 22= Tryz.f22:=by kernel_rfl
@[simp] theorem lv_22_2:livesOf 22 2=[0,3]:=by kernel_rfl
@[simp] theorem lv_22_1000002:livesOf 22 1000002=[2]:=by kernel_rfl
@[simp] theorem tb_22(n:Nat):tab (n+1) 22=some (.pure (run n 22)):=tab_pure (by kernel_rfl) (by kernel_rfl) (by kernel_rfl)
@[simp] theorem fn_23:fnOf 23= Tryz.f23:=by kernel_rfl
@[simp] theorem tb_23(n:Nat):tab (n+1) 23=some (.pure (run n 23)):=tab_pure (by kernel_rfl) (by kernel_rfl) (by kernel_rfl)
@[simp] theorem fn_24:fnOf 24= Tryz.f24:=by kernel_rfl
@[simp] theorem lv_24_4:livesOf 24 4=[0,1,5]:=by kernel_rfl
@[simp] theorem lv_24_1000004:livesOf 24 1000004=[4]:=by kernel_rfl
@[simp] theorem tb_24(n:Nat):tab (n+1) 24=some (.pure (run n 24)):=tab_pure (by kernel_rfl) (by kernel_rfl) (by kernel_rfl)
@[simp] theorem fn_25:fnOf 25= Tryz.f25:=by kernel_rfl
@[simp] theorem lv_25_3:livesOf 25 3=[1,3,4]:=by kernel_rfl
@[simp] theorem lv_25_7:livesOf 25 7=[1,3,4,5,6]:=by kernel_rfl
@[simp] theorem lv_25_11:livesOf 25 11=[1,3,4,5,7]:=by kernel_rfl
@[simp] theorem lv_25_1000003:livesOf 25 1000003=[3]:=by kernel_rfl
@[simp] theorem lv_25_1000007:livesOf 25 1000007=[1,3,4,5]:=by kernel_rfl
@[simp] theorem lv_25_1000011:livesOf 25 1000011=[1,3,4]:=by kernel_rfl
@[simp] theorem tb_25(n:Nat):tab (n+1) 25=some (.pure (run n 25)):=tab_pure (by kernel_rfl) (by kernel_rfl) (by kernel_rfl)
@[simp] theorem fn_31:fnOf 31= Tryz.f31:=by kernel_rfl
@[simp] theorem lv_31_3:livesOf 31 3=[3,4,5,6]:=by kernel_rfl
@[simp] theorem lv_31_1000003:livesOf 31 1000003=[4,5]:=by kernel_rfl
@[simp] theorem tb_31(n:Nat):tab (n+1) 31=some (.pure (run n 31)):=tab_pure (by kernel_rfl) (by kernel_rfl) (by kernel_rfl)
@[simp] theorem fn_33:fnOf 33= Tryz.f33:=by kernel_rfl
@[simp] theorem lv_33_2:livesOf 33 2=[0,3]:=by kernel_rfl
@[simp] theorem lv_33_7:livesOf 33 7=[0,3,4]:=by kernel_rfl
@[simp] theorem lv_33_1000002:livesOf 33 1000002=[2]:=by kernel_rfl
@[simp] theorem lv_33_1000007:livesOf 33 1000007=[0,2,3]:=by kernel_rfl
@[simp] theorem tb_33(n:Nat):tab (n+1) 33=some (.pure (run n 33)):=tab_pure (by kernel_rfl) (by kernel_rfl) (by kernel_rfl)
@[simp] theorem fn_35:fnOf 35= Tryz.f35:=by kernel_rfl
@[simp] theorem lv_35_2:livesOf 35 2=[1,2,3]:=by kernel_rfl
@[simp] theorem lv_35_1000002:livesOf 35 1000002=[1,2]:=by kernel_rfl
@[simp] theorem tb_35(n:Nat):tab (n+1) 35=some (.pure (run n 35)):=tab_pure (by kernel_rfl) (by kernel_rfl) (by kernel_rfl)
@[simp] theorem fn_36:fnOf 36= Tryz.f36:=by kernel_rfl
@[simp] theorem tb_36(n:Nat):tab (n+1) 36=some (.pure (run n 36)):=tab_pure (by kernel_rfl) (by kernel_rfl) (by kernel_rfl)
@[simp] theorem fn_37:fnOf 37= Tryz.f37:=by kernel_rfl
@[simp] theorem lv_37_4:livesOf 37 4=[1,3,5,6,7,8,9,ph 8 1 45 4]:=by kernel_rfl
@[simp] theorem lv_37_11:livesOf 37 11=[3,5,6,7,8,10,ph 8 2 45 4]:=by kernel_rfl
@[simp] theorem lv_37_1000004:livesOf 37 1000004=[3,5,6,7,8]:=by kernel_rfl
@[simp] theorem lv_37_1000011:livesOf 37 1000011=[6,8]:=by kernel_rfl
@[simp] theorem tb_37(n:Nat):tab (n+1) 37=some (.pure (run n 37)):=tab_pure (by kernel_rfl) (by kernel_rfl) (by kernel_rfl)
@[simp] theorem fn_38:fnOf 38= Tryz.f38:=by kernel_rfl
@[simp] theorem tb_38(n:Nat):tab (n+1) 38=some (.pure (run n 38)):=tab_pure (by kernel_rfl) (by kernel_rfl) (by kernel_rfl)
@[simp] theorem fn_39:fnOf 39= Tryz.f39:=by kernel_rfl
@[simp] theorem lv_39_1:livesOf 39 1=[1,2,4]:=by kernel_rfl
@[simp] theorem lv_39_3:livesOf 39 3=[1,2,4,5,11,12,13]:=by kernel_rfl
@[simp] theorem lv_39_1000001:livesOf 39 1000001=[2,4]:=by kernel_rfl
@[simp] theorem lv_39_1000003:livesOf 39 1000003=[1,2,4,5]:=by kernel_rfl
@[simp] theorem tb_39(n:Nat):tab (n+1) 39=some (.pure (run n 39)):=tab_pure (by kernel_rfl) (by kernel_rfl) (by kernel_rfl)
@[simp] theorem fn_40:fnOf 40= Tryz.f40:=by kernel_rfl
@[simp] theorem lv_40_3:livesOf 40 3=[1,2,3,4]:=by kernel_rfl
@[simp] theorem lv_40_1000003:livesOf 40 1000003=[1,2]:=by kernel_rfl
@[simp] theorem tb_40(n:Nat):tab (n+1) 40=some (.pure (run n 40)):=tab_pure (by kernel_rfl) (by kernel_rfl) (by kernel_rfl)
@[simp] theorem fn_41:fnOf 41= Tryz.f41:=by kernel_rfl
@[simp] theorem lv_41_4:livesOf 41 4=[1,2,3,4,17,18,19]:=by kernel_rfl
@[simp] theorem lv_41_9:livesOf 41 9=[1,2,3,4]:=by kernel_rfl
@[simp] theorem lv_41_14:livesOf 41 14=[1,2]:=by kernel_rfl
@[simp] theorem lv_41_1000004:livesOf 41 1000004=[1,2,3,4]:=by kernel_rfl
@[simp] theorem tb_41(n:Nat):tab (n+1) 41=some (.pure (run n 41)):=tab_pure (by kernel_rfl) (by kernel_rfl) (by kernel_rfl)
@[simp] theorem fn_42:fnOf 42= Tryz.f42:=by kernel_rfl
@[simp] theorem lv_42_4:livesOf 42 4=[2,3,5]:=by kernel_rfl
@[simp] theorem lv_42_1000004:livesOf 42 1000004=[4]:=by kernel_rfl
@[simp] theorem tb_42(n:Nat):tab (n+1) 42=some (.pure (run n 42)):=tab_pure (by kernel_rfl) (by kernel_rfl) (by kernel_rfl)
@[simp] theorem fn_43:fnOf 43= Tryz.f43:=by kernel_rfl
@[simp] theorem lv_43_2:livesOf 43 2=[1,2,5]:=by kernel_rfl
@[simp] theorem lv_43_1000002:livesOf 43 1000002=[2,4]:=by kernel_rfl
@[simp] theorem tb_43(n:Nat):tab (n+1) 43=some (.pure (run n 43)):=tab_pure (by kernel_rfl) (by kernel_rfl) (by kernel_rfl)
@[simp] theorem fn_44:fnOf 44= Tryz.f44:=by kernel_rfl
@[simp] theorem lv_44_2:livesOf 44 2=[0,1,5]:=by kernel_rfl
@[simp] theorem lv_44_1000002:livesOf 44 1000002=[4]:=by kernel_rfl
@[simp] theorem tb_44(n:Nat):tab (n+1) 44=some (.pure (run n 44)):=tab_pure (by kernel_rfl) (by kernel_rfl) (by kernel_rfl)
@[simp] theorem fn_46:fnOf 46= Tryz.f46:=by kernel_rfl
@[simp] theorem lv_46_6:livesOf 46 6=[1,8,10,11]:=by kernel_rfl
@[simp] theorem lv_46_1000006:livesOf 46 1000006=[10]:=by kernel_rfl
@[simp] theorem tb_46(n:Nat):tab (n+1) 46=some (.pure (run n 46)):=tab_pure (by kernel_rfl) (by kernel_rfl) (by kernel_rfl)
@[simp] theorem fn_47:fnOf 47= Tryz.f47:=by kernel_rfl
@[simp] theorem tb_47(n:Nat):tab (n+1) 47=some (.pure (run n 47)):=tab_pure (by kernel_rfl) (by kernel_rfl) (by kernel_rfl)
@[simp] theorem fn_48:fnOf 48= Tryz.f48:=by kernel_rfl
@[simp] theorem lv_48_2:livesOf 48 2=[1,2,5]:=by kernel_rfl
@[simp] theorem lv_48_1000002:livesOf 48 1000002=[4]:=by kernel_rfl
@[simp] theorem tb_48(n:Nat):tab (n+1) 48=some (.pure (run n 48)):=tab_pure (by kernel_rfl) (by kernel_rfl) (by kernel_rfl)
@[simp] theorem fn_50:fnOf 50= Tryz.f50:=by kernel_rfl
@[simp] theorem lv_50_3:livesOf 50 3=[2,3,4,5,6,ph 5 0 57 4]:=by kernel_rfl
@[simp] theorem lv_50_1000003:livesOf 50 1000003=[4,5]:=by kernel_rfl
@[simp] theorem tb_50(n:Nat):tab (n+1) 50=some (.pure (run n 50)):=tab_pure (by kernel_rfl) (by kernel_rfl) (by kernel_rfl)
@[simp] theorem fn_52:fnOf 52= Tryz.f52:=by kernel_rfl
@[simp] theorem lv_52_4:livesOf 52 4=[1,3,5,6,7,8,9]:=by kernel_rfl
@[simp] theorem lv_52_1000004:livesOf 52 1000004=[1,3,5,6,7,8]:=by kernel_rfl
@[simp] theorem tb_52(n:Nat):tab (n+1) 52=some (.pure (run n 52)):=tab_pure (by kernel_rfl) (by kernel_rfl) (by kernel_rfl)
@[simp] theorem fn_54:fnOf 54= Tryz.f54:=by kernel_rfl
@[simp] theorem tb_54(n:Nat):tab (n+1) 54=some (.pure (run n 54)):=tab_pure (by kernel_rfl) (by kernel_rfl) (by kernel_rfl)
@[simp] theorem fn_55:fnOf 55= Tryz.f55:=by kernel_rfl
@[simp] theorem tb_55(n:Nat):tab (n+1) 55=some (.pure (run n 55)):=tab_pure (by kernel_rfl) (by kernel_rfl) (by kernel_rfl)
@[simp] theorem fn_56:fnOf 56= Tryz.f56:=by kernel_rfl
@[simp] theorem lv_56_4:livesOf 56 4=[1,32,33,34]:=by kernel_rfl
@[simp] theorem lv_56_1000004:livesOf 56 1000004=[1,2]:=by kernel_rfl
@[simp] theorem tb_56(n:Nat):tab (n+1) 56=some (.pure (run n 56)):=tab_pure (by kernel_rfl) (by kernel_rfl) (by kernel_rfl)
@[simp] theorem tb_57(n:Nat):tab (n+1) 57=some (.lin [] clU):=tab_num rfl _
@[simp] theorem fn_58:fnOf 58= Tryz.f58:=by kernel_rfl
@[simp] theorem lv_58_3:livesOf 58 3=[1,2,4,5,6,ph 5 0 57 4]:=by kernel_rfl
@[simp] theorem lv_58_1000003:livesOf 58 1000003=[4,5]:=by kernel_rfl
@[simp] theorem tb_58(n:Nat):tab (n+1) 58=some (.pure (run n 58)):=tab_pure (by kernel_rfl) (by kernel_rfl) (by kernel_rfl)
@[simp] theorem fn_59:fnOf 59= Tryz.f59:=by kernel_rfl
@[simp] theorem tb_59(n:Nat):tab (n+1) 59=some (.pure (run n 59)):=tab_pure (by kernel_rfl) (by kernel_rfl) (by kernel_rfl)
@[simp] theorem fn_62:fnOf 62= Tryz.f62:=by kernel_rfl
@[simp] theorem lv_62_4:livesOf 62 4=[1,3,4,11,12,13]:=by kernel_rfl
@[simp] theorem lv_62_1000004:livesOf 62 1000004=[1,3,4]:=by kernel_rfl
@[simp] theorem tb_62(n:Nat):tab (n+1) 62=some (.pure (run n 62)):=tab_pure (by kernel_rfl) (by kernel_rfl) (by kernel_rfl)
@[simp] theorem fn_64:fnOf 64= Tryz.f64:=by kernel_rfl
@[simp] theorem lv_64_2:livesOf 64 2=[1,2,7,8,9]:=by kernel_rfl
@[simp] theorem lv_64_1000002:livesOf 64 1000002=[]:=by kernel_rfl
@[simp] theorem tb_64(n:Nat):tab (n+1) 64=some (.lin [false,true,true] (runL n 64)):=tab_lin (k:=false) (by kernel_rfl) (by kernel_rfl) (by kernel_rfl)
@[simp] theorem kp_64:keepOf 64=false:=by kernel_rfl
@[simp] theorem fn_65:fnOf 65= Tryz.f65:=by kernel_rfl
@[simp] theorem tb_65(n:Nat):tab (n+1) 65=some (.pure (run n 65)):=tab_pure (by kernel_rfl) (by kernel_rfl) (by kernel_rfl)
@[simp] theorem fn_66:fnOf 66= Tryz.f66:=by kernel_rfl
@[simp] theorem tb_66(n:Nat):tab (n+1) 66=some (.pure (run n 66)):=tab_pure (by kernel_rfl) (by kernel_rfl) (by kernel_rfl)
@[simp] theorem fn_68:fnOf 68= Tryz.f68:=by kernel_rfl
@[simp] theorem lv_68_5:livesOf 68 5=[1,2,6,7]:=by kernel_rfl
@[simp] theorem lv_68_9:livesOf 68 9=[2,6,8]:=by kernel_rfl
@[simp] theorem lv_68_1000005:livesOf 68 1000005=[2,6]:=by kernel_rfl
@[simp] theorem lv_68_1000009:livesOf 68 1000009=[6]:=by kernel_rfl
@[simp] theorem tb_68(n:Nat):tab (n+1) 68=some (.pure (run n 68)):=tab_pure (by kernel_rfl) (by kernel_rfl) (by kernel_rfl)
@[simp] theorem fn_69:fnOf 69= Tryz.f69:=by kernel_rfl
@[simp] theorem lv_69_3:livesOf 69 3=[1,2,4,6,7]:=by kernel_rfl
@[simp] theorem lv_69_1000003:livesOf 69 1000003=[4,5,6]:=by kernel_rfl
@[simp] theorem tb_69(n:Nat):tab (n+1) 69=some (.pure (run n 69)):=tab_pure (by kernel_rfl) (by kernel_rfl) (by kernel_rfl)
@[simp] theorem fn_70:fnOf 70= Tryz.f70:=by kernel_rfl
@[simp] theorem lv_70_4:livesOf 70 4=[0,1,5]:=by kernel_rfl
@[simp] theorem lv_70_1000004:livesOf 70 1000004=[4]:=by kernel_rfl
@[simp] theorem tb_70(n:Nat):tab (n+1) 70=some (.pure (run n 70)):=tab_pure (by kernel_rfl) (by kernel_rfl) (by kernel_rfl)
@[simp] theorem fn_73:fnOf 73= Tryz.f73:=by kernel_rfl
@[simp] theorem tb_73(n:Nat):tab (n+1) 73=some (.lin [true,false] (runL n 73)):=tab_lin (k:=true) (by kernel_rfl) (by kernel_rfl) (by kernel_rfl)
@[simp] theorem kp_73:keepOf 73=true:=by kernel_rfl
@[simp] theorem tb_74(n:Nat):tab (n+1) 74=some (.pure (oN2 fun x y=>natA (lmb (val x*val y)))):=tab_num rfl _
@[simp] theorem tb_75(n:Nat):tab (n+1) 75=some (.pure (oN1 (fun _=>true) fun x=>natA (lmb (dn x)))):=tab_num rfl _
@[simp] theorem tb_77(n:Nat):tab (n+1) 77=some (.pure (oQt)):=tab_num rfl _
@[simp] theorem tb_79(n:Nat):tab (n+1) 79=some (.pure (oU fun k=>natA (lmb k))):=tab_num rfl _
@[simp] theorem fn_80:fnOf 80= Tryz.f80:=by kernel_rfl
@[simp] theorem lv_80_3:livesOf 80 3=[1,5,7,12,13,14]:=by kernel_rfl
@[simp] theorem lv_80_8:livesOf 80 8=[1,5,7,9,12,13,14,27,28,29]:=by kernel_rfl
@[simp] theorem lv_80_1000003:livesOf 80 1000003=[7]:=by kernel_rfl
@[simp] theorem lv_80_1000008:livesOf 80 1000008=[1,5,7,9,12,13,14]:=by kernel_rfl
@[simp] theorem tb_80(n:Nat):tab (n+1) 80=some (.pure (run n 80)):=tab_pure (by kernel_rfl) (by kernel_rfl) (by kernel_rfl)
@[simp] theorem fn_83:fnOf 83= Tryz.f83:=by kernel_rfl
@[simp] theorem lv_83_2:livesOf 83 2=[1,2,8,9,10]:=by kernel_rfl
@[simp] theorem lv_83_1000002:livesOf 83 1000002=[2,4]:=by kernel_rfl
@[simp] theorem tb_83(n:Nat):tab (n+1) 83=some (.pure (run n 83)):=tab_pure (by kernel_rfl) (by kernel_rfl) (by kernel_rfl)
@[simp] theorem fn_84:fnOf 84= Tryz.f84:=by kernel_rfl
@[simp] theorem tb_84(n:Nat):tab (n+1) 84=some (.pure (run n 84)):=tab_pure (by kernel_rfl) (by kernel_rfl) (by kernel_rfl)
@[simp] theorem fn_85:fnOf 85= Tryz.f85:=by kernel_rfl
@[simp] theorem lv_85_2:livesOf 85 2=[1,2,4,5]:=by kernel_rfl
@[simp] theorem lv_85_1000002:livesOf 85 1000002=[4]:=by kernel_rfl
@[simp] theorem tb_85(n:Nat):tab (n+1) 85=some (.pure (run n 85)):=tab_pure (by kernel_rfl) (by kernel_rfl) (by kernel_rfl)
@[simp] theorem fn_88:fnOf 88= Tryz.f88:=by kernel_rfl
@[simp] theorem tb_88(n:Nat):tab (n+1) 88=some (.lin [false,false,true] (runL n 88)):=tab_lin (k:=false) (by kernel_rfl) (by kernel_rfl) (by kernel_rfl)
@[simp] theorem kp_88:keepOf 88=false:=by kernel_rfl
@[simp] theorem fn_89:fnOf 89= Tryz.f89:=by kernel_rfl
@[simp] theorem tb_89(n:Nat):tab (n+1) 89=some (.lin [true] (runL n 89)):=tab_lin (k:=false) (by kernel_rfl) (by kernel_rfl) (by kernel_rfl)
@[simp] theorem kp_89:keepOf 89=false:=by kernel_rfl
@[simp] theorem fn_90:fnOf 90= Tryz.f90:=by kernel_rfl
@[simp] theorem tb_90(n:Nat):tab (n+1) 90=some (.lin [true,false] (runL n 90)):=tab_lin (k:=false) (by kernel_rfl) (by kernel_rfl) (by kernel_rfl)
@[simp] theorem kp_90:keepOf 90=false:=by kernel_rfl
@[simp] theorem tb_91(n:Nat):tab (n+1) 91=some (.pure (oItoa)):=tab_num rfl _
@[simp] theorem fn_92:fnOf 92= Tryz.f92:=by kernel_rfl
@[simp] theorem tb_92(n:Nat):tab (n+1) 92=some (.pure (run n 92)):=tab_pure (by kernel_rfl) (by kernel_rfl) (by kernel_rfl)
@[simp] theorem fn_93:fnOf 93= Tryz.f93:=by kernel_rfl
@[simp] theorem tb_93(n:Nat):tab (n+1) 93=some (.lin [true] (runL n 93)):=tab_lin (k:=false) (by kernel_rfl) (by kernel_rfl) (by kernel_rfl)
@[simp] theorem kp_93:keepOf 93=false:=by kernel_rfl
@[simp] theorem tb_100(n:Nat):tab (n+1) 100=some (.pure (oN1 (fun _=>true) fun x=>natA (lmb (val x)))):=tab_num rfl _
@[simp] theorem tb_101(n:Nat):tab (n+1) 101=some (.pure (oN2 fun x y=>natA (lmb (val x+val y)))):=tab_num rfl _
@[simp] theorem tb_104(n:Nat):tab (n+1) 104=some (.pure (oND fun x y=>.tup [natA (lmb (val x / val y)),natA (lmb (val x % val y)),.lit (.int .i64 0)])):=tab_num rfl _
@[simp] theorem fn_105:fnOf 105= Tryz.f105:=by kernel_rfl
@[simp] theorem lv_105_4:livesOf 105 4=[1,5,6,7,8,16,17,18,ph 7 0 57 4,ph 8 1 0 0,ph 8 2 0 0]:=by kernel_rfl
@[simp] theorem lv_105_1000004:livesOf 105 1000004=[5,6,7,8]:=by kernel_rfl
@[simp] theorem tb_105(n:Nat):tab (n+1) 105=some (.pure (run n 105)):=tab_pure (by kernel_rfl) (by kernel_rfl) (by kernel_rfl)
@[simp] theorem tb_106(n:Nat):tab (n+1) 106=some (.lin [] clV):=tab_num rfl _
@[simp] theorem tb_110(n:Nat):tab (n+1) 110=some (.pure (oQt)):=tab_num rfl _
@[simp] theorem tb_111(n:Nat):tab (n+1) 111=some (.pure (o1 fun x=>natA (unL x.l2))):=tab_num rfl _
@[simp] theorem fn_113:fnOf 113= Tryz.f113:=by kernel_rfl
@[simp] theorem tb_113(n:Nat):tab (n+1) 113=some (.pure (run n 113)):=tab_pure (by kernel_rfl) (by kernel_rfl) (by kernel_rfl)
@[simp] theorem fn_114:fnOf 114= Tryz.f114:=by kernel_rfl
@[simp] theorem tb_114(n:Nat):tab (n+1) 114=some (.pure (run n 114)):=tab_pure (by kernel_rfl) (by kernel_rfl) (by kernel_rfl)
@[simp] theorem tb_115(n:Nat):tab (n+1) 115=some (.lin [true] ccG):=tab_num rfl _
@[simp] theorem fn_117:fnOf 117= Tryz.f117:=by kernel_rfl
@[simp] theorem lv_117_5:livesOf 117 5=[0,3,4]:=by kernel_rfl
@[simp] theorem lv_117_1000005:livesOf 117 1000005=[4]:=by kernel_rfl
@[simp] theorem tb_117(n:Nat):tab (n+1) 117=some (.pure (run n 117)):=tab_pure (by kernel_rfl) (by kernel_rfl) (by kernel_rfl)
@[simp] theorem tb_119(n:Nat):tab (n+1) 119=some (.pure (oU fun k=>natA (lmb k))):=tab_num rfl _
@[simp] theorem tb_121(n:Nat):tab (n+1) 121=some (.pure (oN1 u64N fun x=>.tup [.lit (.int .u64 (val x:Nat)),.lit (.bool true)])):=tab_num rfl _
@[simp] theorem fn_124:fnOf 124= Tryz.f124:=by kernel_rfl
@[simp] theorem lv_124_3:livesOf 124 3=[5,6,7,8,9,ph 7 0 57 4]:=by kernel_rfl
@[simp] theorem lv_124_1000003:livesOf 124 1000003=[6,7]:=by kernel_rfl
@[simp] theorem tb_124(n:Nat):tab (n+1) 124=some (.pure (run n 124)):=tab_pure (by kernel_rfl) (by kernel_rfl) (by kernel_rfl)
@[simp] theorem tb_129(n:Nat):tab (n+1) 129=some (.pure (oN1 (fun _=>true) fun x=>natA (lmb (val x)))):=tab_num rfl _
@[simp] theorem tb_132(n:Nat):tab (n+1) 132=some (.pure (oND fun x y=>.tup [natA (lmb (val x / val y)),natA (lmb (val x % val y)),.lit (.int .i64 0)])):=tab_num rfl _
@[simp] theorem fn_135:fnOf 135= Tryz.f135:=by kernel_rfl
@[simp] theorem lv_135_2:livesOf 135 2=[0,1,7,8]:=by kernel_rfl
@[simp] theorem lv_135_1000002:livesOf 135 1000002=[4]:=by kernel_rfl
@[simp] theorem tb_135(n:Nat):tab (n+1) 135=some (.pure (run n 135)):=tab_pure (by kernel_rfl) (by kernel_rfl) (by kernel_rfl)
@[simp] theorem tb_138(n:Nat):tab (n+1) 138=some (.pure (oN1 u64N fun x=>.tup [.lit (.int .u64 (val x:Nat)),.lit (.bool true)])):=tab_num rfl _
@[simp] theorem tb_139(n:Nat):tab (n+1) 139=some (.pure (oFU)):=tab_num rfl _
@[simp] theorem tb_140(n:Nat):tab (n+1) 140=some (.pure (oRepeat)):=tab_num rfl _
@[simp] theorem fn_141:fnOf 141= Tryz.f141:=by kernel_rfl
@[simp] theorem lv_141_1:livesOf 141 1=[0,2,3]:=by kernel_rfl
@[simp] theorem lv_141_1000001:livesOf 141 1000001=[]:=by kernel_rfl
@[simp] theorem tb_141(n:Nat):tab (n+1) 141=some (.lin [true] (runL n 141)):=tab_lin (k:=false) (by kernel_rfl) (by kernel_rfl) (by kernel_rfl)
@[simp] theorem kp_141:keepOf 141=false:=by kernel_rfl
@[simp] theorem tb_142(n:Nat):tab (n+1) 142=some (.pure (oJoin)):=tab_num rfl _
@[simp] theorem fn_146:fnOf 146= Tryz.f146:=by kernel_rfl
@[simp] theorem tb_146(n:Nat):tab (n+1) 146=some (.lin [true,false,false] (runL n 146)):=tab_lin (k:=true) (by kernel_rfl) (by kernel_rfl) (by kernel_rfl)
@[simp] theorem kp_146:keepOf 146=true:=by kernel_rfl
@[simp] theorem tb_148(n:Nat):tab (n+1) 148=some (.pure (oN2 fun x y=>natA (lmb (val x*val y)))):=tab_num rfl _
@[simp] theorem tb_175(n:Nat):tab (n+1) 175=some (.pure (oN2 fun x y=>natA (lmb (val x+val y)))):=tab_num rfl _
def ratC(q:Rat):List AV:=[.lit (.bool (rawQ q).s),natA (rawQ q).l1,natA (rawQ q).l2]
def termC(t:Int × Rat):List AV:=[.lit (.int .i64 t.1),.lit (.bool (rawQ t.2).s),natA (rawQ t.2).l1,natA (rawQ t.2).l2]
abbrev Form:=List (Int × Rat) × Rat
def formC(f:Form):List AV:=[.sl 4 (f.1.map termC),.lit (.bool (rawQ f.2).s),natA (rawQ f.2).l1,natA (rawQ f.2).l2]
theorem roomy_s{n b:Nat}(h:n≤100000000)(hb:b≤10000):roomy n b=true:=by
 unfold roomy
 have:n*b≤100000000*10000:=Nat.mul_le_mul h hb
 rw [Bool.and_eq_true]
 exact ⟨decide_eq_true (by omega),decide_eq_true (by omega)⟩
theorem o1_rat{F:Raw→AV}{q:Rat}(h:H q≤17179869184):o1 F [ratA q]=some (F (rawQ q)):=by
 have h1:(rawQ q).few=true:=by
  have a1:(lmb q.num.natAbs).length≤H q:=Nat.le_max_left _ _
  have a2:(dlmb q.den).length≤H q:=Nat.le_trans (dlmb_len _) (Nat.le_max_right _ _)
  unfold Raw.few rawQ
  rw [Bool.and_eq_true]
  exact ⟨Nat.ble_eq_true_of_le (by dsimp only;omega),Nat.ble_eq_true_of_le (by dsimp only;omega)⟩
 simp only [o1,decR_rat,h1,if_true]
theorem o2_rat{F:Raw→Raw→AV}{p q:Rat}(hp:H p≤17179869184)(hq:H q≤17179869184):o2 F [ratA p,ratA q]=some (F (rawQ p) (rawQ q)):=by
 have few:∀{q:Rat},H q≤17179869184→(rawQ q).few=true:=fun {q} h=>by
  have a1:(lmb q.num.natAbs).length≤H q:=Nat.le_max_left _ _
  have a2:(dlmb q.den).length≤H q:=Nat.le_trans (dlmb_len _) (Nat.le_max_right _ _)
  unfold Raw.few rawQ
  rw [Bool.and_eq_true]
  exact ⟨Nat.ble_eq_true_of_le (by dsimp only;omega),Nat.ble_eq_true_of_le (by dsimp only;omega)⟩
 simp only [o2,decR_rat,few hp,few hq,Bool.and_self,if_true]
theorem o1_agg{F:Raw→AV}{q:Rat}(h:H q≤17179869184):o1 F [.agg [.lit (.bool (rawQ q).s),natA (rawQ q).l1,natA (rawQ q).l2]]=some (F (rawQ q)):=o1_rat h
theorem o2_agg{F:Raw→Raw→AV}{p q:Rat}(hp:H p≤17179869184)(hq:H q≤17179869184):o2 F [.agg [.lit (.bool (rawQ p).s),natA (rawQ p).l1,natA (rawQ p).l2],.agg [.lit (.bool (rawQ q).s),natA (rawQ q).l1,natA (rawQ q).l2]]=some (F (rawQ p) (rawQ q)):=o2_rat hp hq
noncomputable def fAdd:List AV→Option AV:=o2 fun x y=>ratA (x.q+y.q)
@[simp] theorem tn_add(n:Nat):tab n 51=some (.pure fAdd):=tab_num rfl n
@[simp] theorem tn_padd(n:Nat):tab n 144=some (.pure fAdd):=tab_num rfl n
noncomputable def fSub:List AV→Option AV:=o2 fun x y=>ratA (x.q-y.q)
@[simp] theorem tn_sub(n:Nat):tab n 87=some (.pure fSub):=tab_num rfl n
noncomputable def fMul:List AV→Option AV:=o2 fun x y=>ratA (x.q*y.q)
@[simp] theorem tn_mul(n:Nat):tab n 72=some (.pure fMul):=tab_num rfl n
@[simp] theorem tn_pmul(n:Nat):tab n 145=some (.pure fMul):=tab_num rfl n
noncomputable def fNeg:List AV→Option AV:=o1 fun x=>ratA (-x.q)
@[simp] theorem tn_neg(n:Nat):tab n 86=some (.pure fNeg):=tab_num rfl n
noncomputable def fCanon:List AV→Option AV:=o1 fun x=>ratA x.q
@[simp] theorem tn_canon(n:Nat):tab n 61=some (.pure fCanon):=tab_num rfl n
@[simp] theorem tn_pcanon(n:Nat):tab n 82=some (.pure fCanon):=tab_num rfl n
noncomputable def fSign:List AV→Option AV:=o1 fun x=>.lit (.int .i64 (sgR x.q))
@[simp] theorem tn_sign(n:Nat):tab n 67=some (.pure fSign):=tab_num rfl n
@[simp] theorem tn_psign(n:Nat):tab n 107=some (.pure fSign):=tab_num rfl n
noncomputable def fCmp:List AV→Option AV:=o2 fun x y=>.lit (.int .i64 (sgR (x.q-y.q)))
@[simp] theorem tn_cmp(n:Nat):tab n 60=some (.pure fCmp):=tab_num rfl n
@[simp] theorem tn_pcmp(n:Nat):tab n 81=some (.pure fCmp):=tab_num rfl n
noncomputable def fSame:List AV→Option AV:=o2 fun x y=>.lit (.bool (decide (x.s=y.s∧x.l1=y.l1∧x.l2=y.l2)))
@[simp] theorem tn_same(n:Nat):tab n 49=some (.pure fSame):=tab_num rfl n
noncomputable def fValid:List AV→Option AV:=o1 fun x=>.lit (.bool (decide (RatV x.s x.l1 x.l2)))
@[simp] theorem tn_valid(n:Nat):tab n 45=some (.pure fValid):=tab_num rfl n
@[simp] theorem tn_pvalid(n:Nat):tab n 112=some (.pure fValid):=tab_num rfl n
noncomputable def fOf:List AV→Option AV:=oZ fun z=>ratA (z:Rat)
@[simp] theorem tn_of(n:Nat):tab n 32=some (.pure fOf):=tab_num rfl n
@[simp] theorem tn_pof(n:Nat):tab n 63=some (.pure fOf):=tab_num rfl n
noncomputable def fFrac:List AV→Option AV:=oZZ fun x y=>.tup [ratA ((x:Rat) / (y:Rat)),.lit (.int .i64 0)]
theorem r_add{p q:Rat}(hp:H p≤17179869184)(hq:H q≤17179869184):fAdd [.agg [.lit (.bool (rawQ p).s),natA (rawQ p).l1,natA (rawQ p).l2],.agg [.lit (.bool (rawQ q).s),natA (rawQ q).l1,natA (rawQ q).l2]]=some (.agg [.lit (.bool (rawQ (p+q)).s),natA (rawQ (p+q)).l1,natA (rawQ (p+q)).l2]):=by unfold fAdd;rw [o2_agg hp hq,rawQ_q,rawQ_q];rfl
theorem r_mul{p q:Rat}(hp:H p≤17179869184)(hq:H q≤17179869184):fMul [.agg [.lit (.bool (rawQ p).s),natA (rawQ p).l1,natA (rawQ p).l2],.agg [.lit (.bool (rawQ q).s),natA (rawQ q).l1,natA (rawQ q).l2]]=some (.agg [.lit (.bool (rawQ (p*q)).s),natA (rawQ (p*q)).l1,natA (rawQ (p*q)).l2]):=by unfold fMul;rw [o2_agg hp hq,rawQ_q,rawQ_q];rfl
theorem r_cmp{p q:Rat}(hp:H p≤17179869184)(hq:H q≤17179869184):fCmp [.agg [.lit (.bool (rawQ p).s),natA (rawQ p).l1,natA (rawQ p).l2],.agg [.lit (.bool (rawQ q).s),natA (rawQ q).l1,natA (rawQ q).l2]]=some (.lit (.int .i64 (sgR (p-q)))):=by unfold fCmp;rw [o2_agg hp hq,rawQ_q,rawQ_q]
theorem r_neg{p:Rat}(hp:H p≤17179869184):fNeg [.agg [.lit (.bool (rawQ p).s),natA (rawQ p).l1,natA (rawQ p).l2]]=some (.agg [.lit (.bool (rawQ (-p)).s),natA (rawQ (-p)).l1,natA (rawQ (-p)).l2]):=by unfold fNeg;rw [o1_agg hp,rawQ_q];rfl
theorem r_canon{p:Rat}(hp:H p≤17179869184):fCanon [.agg [.lit (.bool (rawQ p).s),natA (rawQ p).l1,natA (rawQ p).l2]]=some (.agg [.lit (.bool (rawQ p).s),natA (rawQ p).l1,natA (rawQ p).l2]):=by unfold fCanon;rw [o1_agg hp,rawQ_q];rfl
theorem r_sign{p:Rat}(hp:H p≤17179869184):fSign [.agg [.lit (.bool (rawQ p).s),natA (rawQ p).l1,natA (rawQ p).l2]]=some (.lit (.int .i64 (sgR p))):=by unfold fSign;rw [o1_agg hp,rawQ_q]
theorem rawQ_inj{p q:Rat}(h:rawQ p=rawQ q):p=q:=by rw [←rawQ_q p,h,rawQ_q]
theorem r_of{z:Int}(h1:-9223372036854775808≤z)(h2:z≤9223372036854775807):fOf [.lit (.int .i64 z)]=some (.agg [.lit (.bool (rawQ (z:Rat)).s),natA (rawQ (z:Rat)).l1,natA (rawQ (z:Rat)).l2]):=if_pos ⟨h1,h2⟩
@[simp] theorem z0s:(rawQ 0).s=false:=rfl
@[simp] theorem z0n:natA (rawQ 0).l1=.sl 1 []:=by
  have e:(rawQ 0).l1=[]:=by decide+kernel
  rw [e];rfl
@[simp] theorem z0d:natA (rawQ 0).l2=.sl 1 []:=by
  have e:(rawQ 0).l2=[]:=by decide+kernel
  rw [e];rfl
@[simp] def ratV(q:Rat):AV:=.agg [.lit (.bool (rawQ q).s),natA (rawQ q).l1,natA (rawQ q).l2]
@[simp] def formV(f:Form):AV:=.agg [.sl 4 (f.1.map termC),.lit (.bool (rawQ f.2).s),natA (rawQ f.2).l1,natA (rawQ f.2).l2]
attribute [simp] ratC termC formC loopsOf roomy_s
def absQ(q:Rat):Rat:=if q.num<0 then -q else q
theorem neg_nm(q:Rat):(-q).num=-q.num:=rfl
theorem neg_dn(q:Rat):(-q).den=q.den:=rfl
theorem absQ_raw(q:Rat):rawQ (absQ q)=⟨false,(rawQ q).l1,(rawQ q).l2⟩:=by
 by_cases h:q.num<0
 ·have e:absQ q=-q:=if_pos h
  have e2:decide (-q.num<0)=false:=decide_eq_false (by omega)
  rw [e]
  unfold rawQ
  rw [neg_nm,neg_dn,Int.natAbs_neg,e2]
 ·have e:absQ q=q:=if_neg h
  have e2:decide (q.num<0)=false:=decide_eq_false h
  rw [e]
  unfold rawQ
  rw [e2]
@[simp] theorem absQ_s(q:Rat):(rawQ (absQ q)).s=false:=by rw [absQ_raw]
@[simp] theorem absQ_n(q:Rat):(rawQ (absQ q)).l1=(rawQ q).l1:=by rw [absQ_raw]
@[simp] theorem absQ_d(q:Rat):(rawQ (absQ q)).l2=(rawQ q).l2:=by rw [absQ_raw]
def InI(z:Int):Prop:=-9223372036854775808≤z∧z≤9223372036854775807
theorem r_valid{p:Rat}(hp:H p≤17179869184):fValid [.agg [.lit (.bool (rawQ p).s),natA (rawQ p).l1,natA (rawQ p).l2]]=some (.lit (.bool true)):=by
 unfold fValid
 rw [o1_agg hp]
 have e:RatV (rawQ p).s (rawQ p).l1 (rawQ p).l2:=by
  have h:sv (rawQ p).s (rawQ p).l1 (rawQ p).l2=p:=rawQ_q p
  unfold RatV
  rw [h]
  exact ⟨rfl,rfl,rfl⟩
 simp [e]
@[simp] def intI64C(z:Int):List AV:=[.lit (.int .i64 z)]
@[simp] def intU8C(z:Int):List AV:=[.lit (.int .u8 z)]
@[simp] def intU32C(z:Int):List AV:=[.lit (.int .u32 z)]
@[simp] def boolC(b:Bool):List AV:=[.lit (.bool b)]
@[simp] def strC(s:ByteArray):List AV:=[.lit (.string s)]
def ofQ(z:Int):Rat:=(z:Rat)
theorem r_ofq{z:Int}(h1:-9223372036854775808≤z)(h2:z≤9223372036854775807):fOf [.lit (.int .i64 z)]=some (.agg [.lit (.bool (rawQ (ofQ z)).s),natA (rawQ (ofQ z)).l1,natA (rawQ (ofQ z)).l2]):=r_of h1 h2
@[simp] theorem okE_ratC(l:List Rat):okEls 3 (l.map ratC)=true:=okEls_map (fun x=>by simp) l
@[simp] theorem okE_termC(l:List (Int × Rat)):okEls 4 (l.map termC)=true:=okEls_map (fun x=>by simp) l
@[simp] theorem okE_formC(l:List Form):okEls 4 (l.map formC)=true:=okEls_map (fun x=>by simp) l
@[simp] theorem okE_intI64C(l:List Int):okEls 1 (l.map intI64C)=true:=okEls_map (fun x=>by simp) l
@[simp] theorem okE_intU8C(l:List Int):okEls 1 (l.map intU8C)=true:=okEls_map (fun x=>by simp) l
@[simp] theorem okE_boolC(l:List Bool):okEls 1 (l.map boolC)=true:=okEls_map (fun x=>by simp) l
@[simp] theorem okE_strC(l:List ByteArray):okEls 1 (l.map strC)=true:=okEls_map (fun x=>by simp) l
section
variable {α β γ : Type} {P : Program} {O : FuncId → Option Orc} {m N : Nat} {lives : Nat → List Nat} {r : Nat} {C : Code} {M : Nat} {L : List α} {enc : Nat → β → St} {exN exE : Ex}
noncomputable def loopG(P:Program)(O:FuncId→Option Orc)(m N:Nat)(lives:Nat→List Nat)(r:Nat)(C:Code)(e:St):Option (Ex × St):=
 match (match exec P O m N lives big C e with
  | some (.nrm,s')=>loopS m (exec P O m N lives big C) (lives r) 4294967295 s'
  | x=>x) with
 | some (ex,s')=>(match gc m (lives (outOf r)) s' with|some s2=>some (ex,s2)|none=>none)
 | none=>none
theorem loopX_G{C':Code}{s e:St}(hC:C=C')(hg:gc m (lives r) s=some e):loopX P O m N lives big r C s=loopG P O m N lives r C' e:=by
 subst hC
 unfold loopX loopG
 have hb:loopS m (exec P O m N lives big C) (lives r) big s=loopS m (exec P O m N lives big C) (lives r) (4294967295+1) s:=rfl
 rw [hb,loopS,hg]
 dsimp only
 cases exec P O m N lives big C e with
 | none=>rfl
 | some p=>
   obtain ⟨ex,s1⟩:=p
   cases ex <;>rfl
theorem loopS_Q{live outL:List Nat}{step:St→Option (Ex × St)}{Inv:Nat→β→Prop}{Q:Ex→St→Prop}(hstep:∀i b,i<M→Inv i b→(∃b',Cont m step live (enc i b) (enc (i+1) b')∧Inv (i+1) b')∨(∃ex t,ex≠.nrm∧Leave m step outL (enc i b) ex t∧Q ex t))(hend:∀b,Inv M b→∃ex t,ex≠.nrm∧Leave m step outL (enc M b) ex t∧Q ex t):
  ∀(k i n:Nat) (b:β),i+k=M→k≤n→Inv i b→∃ex s' t,(match step (enc i b) with|some (.nrm,s')=>loopS m step live n s'|x=>x)=some (ex,s')∧gc m outL s'=some t∧Q ex t
 | 0,i,n,b,hi,hn,hI=>by
   obtain rfl:i=M:=by omega
   obtain ⟨ex,t,h0,⟨s',h1,h2⟩,h3⟩:=hend b hI
   refine ⟨ex,s',t,?_,h2,h3⟩
   rw [h1]
   cases ex <;>first|exact absurd rfl h0|rfl
 | k+1,i,n,b,hi,hn,hI=>by
   rcases hstep i b (by omega) hI with ⟨b',⟨s1,h1,h2⟩,h3⟩|⟨ex,t,h0,⟨s',h1,h2⟩,h3⟩
   ·obtain ⟨ex,s',t,h4,h5,h6⟩:=loopS_Q hstep hend k (i+1) (n-1) b' (by omega) (by omega) h3
    refine ⟨ex,s',t,?_,h5,h6⟩
    rw [h1]
    have e:n=(n-1)+1:=by omega
    rw [e]
    dsimp only
    rw [loopS,h2]
    exact h4
   ·refine ⟨ex,s',t,?_,h2,h3⟩
    rw [h1]
    cases ex <;>first|exact absurd rfl h0|rfl
theorem loopG_Q(Inv:Nat→β→Prop)(Q:Ex→St→Prop)(b:β)(hI:Inv 0 b)(hn:M≤4294967295)(hstep:∀i b,i<M→Inv i b→(∃b',Cont m (exec P O m N lives big C) (lives r) (enc i b) (enc (i+1) b')∧Inv (i+1) b')∨(∃ex t,ex≠.nrm∧Leave m (exec P O m N lives big C) (lives (outOf r)) (enc i b) ex t∧Q ex t))(hend:∀b,Inv M b→∃ex t,ex≠.nrm∧Leave m (exec P O m N lives big C) (lives (outOf r)) (enc M b) ex t∧Q ex t):
  ∃ex t,loopG P O m N lives r C (enc 0 b)=some (ex,t)∧Q ex t:=by
 obtain ⟨ex,s',t,h1,h2,h3⟩:=loopS_Q hstep hend M 0 4294967295 b (by omega) hn hI
 refine ⟨ex,t,?_,h3⟩
 unfold loopG
 rw [h1]
 simp only [h2]
theorem loopG_R(Inv:Nat→β→Prop){out:β→St}(b:β)(hI:Inv 0 b)(hn:M≤4294967295)(hN:exN≠.nrm)(hstep:∀i b,i<M→Inv i b→∃b',Cont m (exec P O m N lives big C) (lives r) (enc i b) (enc (i+1) b')∧Inv (i+1) b')(hend:∀b,Inv M b→Leave m (exec P O m N lives big C) (lives (outOf r)) (enc M b) exN (out b)):
  ∃b',loopG P O m N lives r C (enc 0 b)=some (exN,out b')∧Inv M b':=by
 obtain ⟨ex,t,h1,b',rfl,rfl,h3⟩:=loopG_Q (m:=m) (C:=C) (P:=P) (O:=O) (N:=N) Inv (fun ex t=>∃b',ex=exN∧t=out b'∧Inv M b') b hI hn (fun i b hi hI=>.inl (hstep i b hi hI)) (fun b hI=>⟨exN,out b,hN,hend b hI,b,rfl,rfl,hI⟩)
 exact ⟨b',h1,h3⟩
theorem loopG_E {f:Nat→β→α→Except γ β} {out:β→St} {outE:γ→St} {Inv:Nat→β→Prop} (b:β) (hI:Inv 0 b) (hn:L.length≤4294967295) (hN:exN≠.nrm) (hE:exE≠.nrm) (hstep:∀i x b,L[i]?=some x→Inv i b→match f i b x with
   | .ok b'=>Cont m (exec P O m N lives big C) (lives r) (enc i b) (enc (i+1) b')∧Inv (i+1) b'
   | .error c=>Leave m (exec P O m N lives big C) (lives (outOf r)) (enc i b) exE (outE c)) (hend:∀b,Inv L.length b→Leave m (exec P O m N lives big C) (lives (outOf r)) (enc L.length b) exN (out b)):
  loopG P O m N lives r C (enc 0 b)=some (endE (foldE f 0 b L) exN out exE outE)∧∀b',foldE f 0 b L=.ok b'→Inv L.length b':=by
 obtain ⟨ex,t,h1,h2,h3⟩:=loopG_Q (m:=m) (C:=C) (P:=P) (O:=O) (N:=N) (lives:=lives) (r:=r) (enc:=enc) (M:=L.length) (fun i b'=>Inv i b'∧foldE f i b' (L.drop i)=foldE f 0 b L)
  (fun ex t=>(ex,t)=endE (foldE f 0 b L) exN out exE outE∧∀b',foldE f 0 b L=.ok b'→Inv L.length b') b ⟨hI,rfl⟩ hn
  (fun i b' hi ⟨hI,hf⟩=>by
   have hx:L[i]?=some L[i]:=List.getElem?_eq_getElem hi
   have hd:L.drop i=L[i]::L.drop (i+1):=List.drop_eq_getElem_cons hi
   have h4:=hstep i _ b' hx hI
   rw [hd,foldE] at hf
   split at h4
   ·rename_i b2 he
    rw [he] at hf
    exact .inl ⟨b2,h4.1,h4.2,hf⟩
   ·rename_i c he
    rw [he] at hf
    exact .inr ⟨exE,outE c,hE,h4,by rw [←hf];rfl,fun b' h=>by rw [←hf] at h;cases h⟩)
  (fun b' ⟨hI,hf⟩=>by
   rw [List.drop_length,foldE] at hf
   exact ⟨exN,out b',hN,hend b' hI,by rw [←hf];rfl,fun b2 h=>by rw [←hf] at h;cases h;exact hI⟩)
 rw [h1,h2]
 exact ⟨rfl,h3⟩
theorem loopG_I{f:Nat→β→α→β}{out:β→St}{Inv:Nat→β→Prop}(b:β)(hI:Inv 0 b)(hn:L.length≤4294967295)(hN:exN≠.nrm)(hstep:∀i x b,L[i]?=some x→Inv i b→Cont m (exec P O m N lives big C) (lives r) (enc i b) (enc (i+1) (f i b x))∧Inv (i+1) (f i b x))(hend:∀b,Inv L.length b→Leave m (exec P O m N lives big C) (lives (outOf r)) (enc L.length b) exN (out b)):
  loopG P O m N lives r C (enc 0 b)=some (exN,out (foldI f 0 b L))∧Inv L.length (foldI f 0 b L):=by
 have key:∀(R:List α) (i:Nat) (b:β),foldE (γ:=Empty) (fun i b x=>.ok (f i b x)) i b R=.ok (foldI f i b R):=fun R=>by
  induction R with
  | nil=>intro i b;rfl
  | cons x R ih=>intro i b;exact ih (i+1) (f i b x)
 have h:=loopG_E (γ:=Empty) (f:=fun i b x=>.ok (f i b x)) (exE:=.ret) (outE:=fun c=>c.elim) (P:=P) (O:=O) (m:=m) (N:=N) (lives:=lives) (r:=r) (C:=C) b hI hn hN (fun h=>by cases h) hstep hend
 rw [key] at h
 exact ⟨h.1,h.2 _ rfl⟩
end
theorem loopG_all{P:Program}{O:FuncId→Option Orc}{m N:Nat}{lives:Nat→List Nat}{r:Nat}{C:Code}{M:Nat}{enc:Nat→St}{p:Nat→Bool}{exN exE:Ex}{out outE:St}(hn:M≤4294967295)(hN:exN≠.nrm)(hE:exE≠.nrm)(hstep:∀i,i<M→(∀j,j<i→p j=true)→(p i=true→Cont m (exec P O m N lives big C) (lives r) (enc i) (enc (i+1)))∧(p i=false→Leave m (exec P O m N lives big C) (lives (outOf r)) (enc i) exE outE))(hend:Leave m (exec P O m N lives big C) (lives (outOf r)) (enc M) exN out):
  loopG P O m N lives r C (enc 0)=some (if ∀i,i<M→p i=true then (exN,out) else (exE,outE)):=by
 obtain ⟨ex,t,h1,h2⟩:=loopG_Q (β:=Unit) (m:=m) (C:=C) (P:=P) (O:=O) (N:=N) (lives:=lives) (r:=r) (M:=M) (enc:=fun i _=>enc i) (fun i _=>∀j,j<i→p j=true) (fun ex t=>(ex,t)=if ∀i,i<M→p i=true then (exN,out) else (exE,outE)) () (fun j hj=>absurd hj (by omega)) hn
  (fun i b hi hI=>by
   cases hp:p i with
   | true=>exact .inl ⟨(),(hstep i hi hI).1 hp,fun j hj=>by rcases Nat.lt_succ_iff_lt_or_eq.1 hj with h|rfl;exact hI j h;exact hp⟩
   | false=>
     refine .inr ⟨exE,outE,hE,(hstep i hi hI).2 hp,?_⟩
     rw [if_neg]
     intro h
     rw [h i hi] at hp;cases hp)
  (fun b hI=>⟨exN,out,hN,hend,by rw [if_pos hI]⟩)
 rw [h1,h2]
structure RawB (r:Raw):Prop where
 n:Lim r.l1
 d:Lim r.l2
 bn:r.l1.length≤17179869184
 bd:r.l2.length≤17179869184
theorem RawB.few{r:Raw}(h:RawB r):r.few=true:=by
 unfold Raw.few
 rw [Bool.and_eq_true]
 exact ⟨Nat.ble_eq_true_of_le h.bn,Nat.ble_eq_true_of_le h.bd⟩
theorem rr_1{F:Raw→AV}{r:Raw}(h:RawB r):o1 F [.agg [.lit (.bool r.s),natA r.l1,natA r.l2]]=some (F r):=by
 have h1:decR (.agg [.lit (.bool r.s),natA r.l1,natA r.l2])=some r:=decR_av h.n h.d
 simp only [o1,h1,h.few,if_true]
theorem rr_valid{r:Raw}(h:RawB r):fValid [.agg [.lit (.bool r.s),natA r.l1,natA r.l2]]=some (.lit (.bool (decide (RatV r.s r.l1 r.l2)))):=rr_1 h
theorem rr_sign{r:Raw}(h:RawB r):fSign [.agg [.lit (.bool r.s),natA r.l1,natA r.l2]]=some (.lit (.int .i64 (sgR r.q))):=rr_1 h
@[simp] def rawC(r:Raw):List AV:=[.lit (.bool r.s),natA r.l1,natA r.l2]
@[simp] def termRC(t:Int × Raw):List AV:=[.lit (.int .i64 t.1),.lit (.bool t.2.s),natA t.2.l1,natA t.2.l2]
abbrev FormR:=List (Int × Raw) × Raw
@[simp] def formRC(f:FormR):List AV:=[.sl 4 (f.1.map termRC),.lit (.bool f.2.s),natA f.2.l1,natA f.2.l2]
@[simp] theorem okE_rawC(l:List Raw):okEls 3 (l.map rawC)=true:=okEls_map (fun x=>by simp) l
@[simp] theorem okE_termRC(l:List (Int × Raw)):okEls 4 (l.map termRC)=true:=okEls_map (fun x=>by simp) l
@[simp] theorem okE_formRC(l:List FormR):okEls 4 (l.map formRC)=true:=okEls_map (fun x=>by simp) l
structure TInt where
 Neg:Bool
 Mag:List Nat
@[simp] def intC(g:TInt):List AV:=[.lit (.bool g.Neg),natA g.Mag]
@[simp] def intV(g:TInt):AV:=.agg [.lit (.bool g.Neg),natA g.Mag]
@[simp] theorem okE_intC(l:List TInt):okEls 2 (l.map intC)=true:=okEls_map (fun x=>by simp) l
structure TGraph where
 Inputs:Int
 Units:List Form
 Outputs:List Form
@[simp] def graphC(g:TGraph):List AV:=[.lit (.int .i64 (g.Inputs)),.sl 4 (g.Units.map formC),.sl 4 (g.Outputs.map formC)]
@[simp] def graphV(g:TGraph):AV:=.agg [.lit (.int .i64 (g.Inputs)),.sl 4 (g.Units.map formC),.sl 4 (g.Outputs.map formC)]
@[simp] theorem okE_graphC(l:List TGraph):okEls 3 (l.map graphC)=true:=okEls_map (fun x=>by simp) l
structure TGraphR where
 Inputs:Int
 Units:List FormR
 Outputs:List FormR
@[simp] def graphRC(g:TGraphR):List AV:=[.lit (.int .i64 (g.Inputs)),.sl 4 (g.Units.map formRC),.sl 4 (g.Outputs.map formRC)]
@[simp] def graphRV(g:TGraphR):AV:=.agg [.lit (.int .i64 (g.Inputs)),.sl 4 (g.Units.map formRC),.sl 4 (g.Outputs.map formRC)]
@[simp] theorem okE_graphRC(l:List TGraphR):okEls 3 (l.map graphRC)=true:=okEls_map (fun x=>by simp) l
end Go.Proofs.YtefdjbknmfeooaaGreatDoor
