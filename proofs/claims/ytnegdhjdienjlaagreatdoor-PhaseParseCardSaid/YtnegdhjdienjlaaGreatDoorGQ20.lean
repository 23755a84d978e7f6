import Derived.Test.YtnegdhjdienjlaaGreatDoorGQ19
import Derived.Test.YtnegdhjdienjlaaGreatDoorGQ17
import Derived.Test.YtnegdhjdienjlaaGreatDoorGQ11
set_option linter.all false
set_option maxRecDepth 100000
namespace Go.Proofs.YtnegdhjdienjlaaGreatDoor
section
open Go.RowKit
def livesT:List (Nat × List (Nat × List Nat)):=[(14,[(4,[0,2,4,5,6]),(15,[0,2,4,7,8]),(1000004,[0,2,4,5]),(1000015,[0,2,4,7])]),(26,[(4,[0,1,18,19,20]),(15,[0,8,48,49]),(1000004,[0,1,4,5]),(1000015,[8])]),(28,[(4,[0,1,5]),(1000004,[4])]),(71,[(3,[3,7,8,9]),(1000003,[2])]),(79,[(3,[0,3,4]),(7,[3,4,5,8,26]),(12,[3]),(1000003,[3]),(1000007,[3,4,5]),(1000012,[3])]),(80,[(2,[0,3]),(1000002,[3])]),(81,[(11,[0,1,2,3,9,10]),(1000011,[0,9,10])]),(82,[(10,[5,6,47,48,49]),(1000010,[2,3,5,6])]),(87,[(2,[0,1,2,9]),(1000002,[1,2,6,7,8,9])]),(88,[(3,[0,3,4]),(1000003,[3])]),(89,[(4,[0,1,5,6,7]),(1000004,[5,6])]),(90,[(3,[0,1,5,6]),(7,[0,1,5,6,7,8]),(1000003,[5]),(1000007,[0,1,5,6])]),(109,[(2,[0,3]),(1000002,[0,3])]),(110,[(9,[0,1,11,12,13]),(1000009,[11,12])]),(130,[(2,[0,1,7,8]),(1000002,[4])]),(133,[(7,[0,1,5]),(1000007,[4])]),(137,[(13,[9,10,11,12,13]),(1000013,[9,10,12])]),(138,[(6,[4,12,13,14]),(1000006,[4])]),(139,[(1,[0,2,3]),(1000001,[])]),(140,[(6,[0,1,6,7]),(1000006,[0,1,6])]),(141,[(6,[0,1,5]),(1000006,[4])]),(148,[(2,[0,4]),(1000002,[0,2,3,4])]),(149,[(2,[0,3]),(6,[0,3,4,5,6,18,19,20]),(1000002,[3]),(1000006,[0,3,4,5,6])]),(150,[(38,[7,8,9]),(1000038,[9])]),(164,[(6,[3,4]),(1000006,[3])]),(165,[(4,[0,1,5,6,7]),(1000004,[5,6])]),(166,[(2,[0,1,5]),(1000002,[4])]),(167,[(6,[0,1,6,7,8]),(1000006,[6])]),(178,[(15,[0,1,5,6,7,8,9,10]),(1000015,[4])]),(184,[(2,[0,1]),(1000002,[0])]),(187,[(2,[0,3]),(1000002,[0,3])]),(190,[(1,[0,1,4]),(1000001,[0,1,4])]),(191,[(11,[0,1,3,4,10,11,12,13,14,15,16]),(18,[0,1,3,4,10,11,12,13,17]),(1000011,[0,1,3,4,10,11,12,13]),(1000018,[0,1,3,4,10,11,12,13])]),(194,[(4,[0,1,6,7,8]),(1000004,[6,7])]),(196,[(3,[1,5,13,14,15]),(1000003,[5])]),(197,[(3,[0,1,2,7,8,15,16,17]),(17,[0,1,2,7,70,71,72]),(1000003,[0,1,2,7,8]),(1000017,[0,1,2,7])]),(198,[(4,[0,1,5,7,8]),(1000004,[7])]),(199,[(9,[0,1,6,30,31,32]),(1000009,[6])]),(200,[(2,[2,4]),(1000002,[2])]),(202,[(36,[1,8,9,10,11,12,13,99,100,101]),(1000036,[6,7,9,12,13])]),(205,[(7,[0,1,5,6,24,25,26]),(1000007,[0,5,6])]),(206,[(6,[1,5,29,30,31]),(10,[1,5,6,7,8,29,30,31,36,37,38]),(1000006,[5]),(1000010,[1,5,6,8,29,30,31])]),(228,[(5,[0,1,5,6,7,8,9]),(11,[0,1,5,6,7,8,10]),(1000005,[0,1,5,6,7,8]),(1000011,[4])]),(236,[(2,[0,1]),(10,[11,13]),(1000002,[0,1]),(1000010,[11])]),(245,[(10,[0,3,4,5]),(1000010,[2,3])]),(254,[(3,[0,4,5]),(8,[4,6,7,8]),(1000003,[0,4]),(1000008,[4,6])])]
def livesOf(f:FuncId):Nat→List Nat:=lv ((livesT.lookup f).getD [])
def modesT:List (Nat × (List Bool × Bool)):=[(84,([true],false)),(102,([true],false)),(103,([true,false],false)),(105,([true],false)),(106,([true,false],false)),(139,([true],false)),(143,([],true)),(144,([],true)),(145,([],true)),(146,([],true)),(147,([true,false],false)),(148,([true],false)),(161,([true],false)),(163,([true,false],false)),(190,([true,false],false)),(191,([true,false,false,false,false],true)),(197,([true,false,false],false))]
noncomputable def fnOf(f:FuncId):Func:=(Tryz.prog.funcs[f]?).getD default
def keepOf(f:FuncId):Bool:=((modesT.lookup f).getD ([],false)).2
noncomputable def tab:Nat→FuncId→Option Orc
 | 0,f=>orc0 f
 | n+1,f=>match orc0 f with
   | some x=>some x
   | none=>match plainF Tryz.prog f with
     | true=>(match modesT.lookup f with
       | some (ms,k)=>some (.lin ms (fnL Tryz.prog (tab n) (livesOf f) big (fnOf f) (keepOf f)))
       | none=>some (.pure (fnP Tryz.prog (tab n) (livesOf f) big (fnOf f))))
     | false=>none
theorem plain_fn{f:FuncId}(h:plainF Tryz.prog f=true): Tryz.prog.funcs[f]?=some (fnOf f):=by
 unfold plainF at h
 unfold fnOf
 split at h
 ·rename_i fn hf;rw [hf];rfl
 ·cases h
theorem tab_ok:∀n,OrcOk Tryz.prog (tab n)
 | 0=>orc0_ok
 | n+1=>by
   have key:∀f x,tab (n+1) f=some x→(orc0 f=some x)∨(plainF Tryz.prog f=true∧((∃(ms:List Bool) (k:Bool),x=.lin ms (fnL Tryz.prog (tab n) (livesOf f) big (fnOf f) (keepOf f)))∨x=.pure (fnP Tryz.prog (tab n) (livesOf f) big (fnOf f)))):=fun f x h=>by
    unfold tab at h
    split at h
    ·rename_i y hy;cases h;exact .inl hy
    ·split at h
     ·rename_i hp
      split at h
      ·cases h;exact .inr ⟨hp,.inl ⟨_,false,rfl⟩⟩
      ·cases h;exact .inr ⟨hp,.inr rfl⟩
     ·cases h
   refine ⟨fun f g h=>?_,fun f ms g h=>?_⟩
   ·rcases key f _ h with h|⟨hp,⟨ms,k,h⟩|h⟩
    ·exact orc0_ok.pure f g h
    ·cases h
    ·cases h
     exact ⟨hp,fun args r hr=>con_of (tab_ok n) mixed (plain_fn hp) (body_some hp (plain_fn hp)) hr⟩
   ·rcases key f _ h with h|⟨hp,⟨ms,k,h⟩|h⟩
    ·exact orc0_ok.lin f ms g h
    ·cases h
     exact ⟨hp,fun bin args r outs hr=>conL_of (tab_ok n) mixed (plain_fn hp) (body_some hp (plain_fn hp)) hr⟩
    ·cases h
noncomputable def run(n:Nat)(f:FuncId)(args:List AV):Option AV:=fnP Tryz.prog (tab n) (livesOf f) big (fnOf f) args
noncomputable def runL(n:Nat)(f:FuncId)(args:List AV)(bin:List AB):Option (AV × List (Nat × AB)):=fnL Tryz.prog (tab n) (livesOf f) big (fnOf f) (keepOf f) args bin
theorem tab_pure{n:Nat}{f:FuncId}(h0:orc0 f=none)(hp:plainF Tryz.prog f=true)(hm:modesT.lookup f=none):tab (n+1) f=some (.pure (run n f)):=by
 unfold tab
 rw [h0]
 simp only [hp,hm]
 rfl
theorem tab_lin{n:Nat}{f:FuncId}{ms:List Bool}{k:Bool}(h0:orc0 f=none)(hp:plainF Tryz.prog f=true)(hm:modesT.lookup f=some (ms,k)):tab (n+1) f=some (.lin ms (runL n f)):=by
 unfold tab
 rw [h0]
 simp only [hp,hm]
 rfl
theorem tab_num{f:FuncId}{x:Orc}(h:orc0 f=some x):∀n,tab n f=some x
 | 0=>h
 | n+1=>by unfold tab;rw [h]
@[simp] theorem fn_4:fnOf 4= Tryz.f4:=by kernel_rfl
@[simp] theorem tb_4(n:Nat):tab (n+1) 4=some (.pure (run n 4)):=tab_pure (by kernel_rfl) (by kernel_rfl) (by kernel_rfl)
@[simp] theorem fn_7:fnOf 7= Tryz.f7:=by kernel_rfl
@[simp] theorem tb_7(n:Nat):tab (n+1) 7=some (.pure (run n 7)):=tab_pure (by kernel_rfl) (by kernel_rfl) (by kernel_rfl)
@[simp] theorem fn_9:fnOf 9= Tryz.f9:=by kernel_rfl
@[simp] theorem tb_9(n:Nat):tab (n+1) 9=some (.pure (run n 9)):=tab_pure (by kernel_rfl) (by kernel_rfl) (by kernel_rfl)
@[simp] theorem fn_10:fnOf 10= Tryz.f10:=by kernel_rfl
@[simp] theorem tb_10(n:Nat):tab (n+1) 10=some (.pure (run n 10)):=tab_pure (by kernel_rfl) (by kernel_rfl) (by kernel_rfl)
@[simp] theorem fn_11:fnOf 11= Tryz.f11:=by kernel_rfl
@[simp] theorem tb_11(n:Nat):tab (n+1) 11=some (.pure (run n 11)):=tab_pure (by kernel_rfl) (by kernel_rfl) (by kernel_rfl)
@[simp] theorem fn_12:fnOf 12= Tryz.f12:=by kernel_rfl
@[simp] theorem tb_12(n:Nat):tab (n+1) 12=some (.pure (run n 12)):=tab_pure (by kernel_rfl) (by kernel_rfl) (by kernel_rfl)
@[simp] theorem fn_13:fnOf 13= Tryz.f13:=by kernel_rfl
@[simp] theorem tb_13(n:Nat):tab (n+1) 13=some (.pure (run n 13)):=tab_pure (by kernel_rfl) (by kernel_rfl) (by kernel_rfl)
@[simp] theorem fn_14:fnOf 14= Tryz.f14:=by kernel_rfl
@[simp] theorem lv_14_4:livesOf 14 4=[0,2,4,5,6]:=by kernel_rfl
@[simp] theorem lv_14_15:livesOf 14 15=[0,2,4,7,8]:=by kernel_rfl
@[simp] theorem lv_14_1000004:livesOf 14 1000004=[0,2,4,5]:=by kernel_rfl
@[simp] theorem lv_14_1000015:livesOf 14 1000015=[0,2,4,7]:=by kernel_rfl
@[simp] theorem tb_14(n:Nat):tab (n+1) 14=some (.pure (run n 14)):=tab_pure (by kernel_rfl) (by kernel_rfl) (by kernel_rfl)
@[simp] theorem fn_25:fnOf 25= Tryz.f25:=by kernel_rfl
@[simp] theorem tb_25(n:Nat):tab (n+1) 25=some (.pure (run n 25)):=tab_pure (by kernel_rfl) (by kernel_rfl) (by kernel_rfl)
@[simp] theorem fn_26:fnOf 26= Tryz.f26:=by kernel_rfl
@[simp] theorem lv_26_4:livesOf 26 4=[0,1,18,19,20]:=by kernel_rfl
@[simp] theorem lv_26_15:livesOf 26 15=[0,8,48,49]:=by kernel_rfl
@[simp] theorem lv_26_1000004:livesOf 26 1000004=[0,1,4,5]:=by kernel_rfl
@[simp] theorem lv_26_1000015:livesOf 26 1000015=[8]:=by kernel_rfl
@[simp] theorem tb_26(n:Nat):tab (n+1) 26=some (.pure (run n 26)):=tab_pure (by kernel_rfl) (by kernel_rfl) (by kernel_rfl)
@[simp] theorem fn_27:fnOf 27= Tryz.f27:=by kernel_rfl
@[simp] theorem tb_27(n:Nat):tab (n+1) 27=some (.pure (run n 27)):=tab_pure (by kernel_rfl) (by kernel_rfl) (by kernel_rfl)
@[simp] theorem fn_28:fnOf 28= Tryz.f28:=by kernel_rfl
@[simp] theorem lv_28_4:livesOf 28 4=[0,1,5]:=by kernel_rfl
@[simp] theorem lv_28_1000004:livesOf 28 1000004=[4]:=by kernel_rfl
@[simp] theorem tb_28(n:Nat):tab (n+1) 28=some (.pure (run n 28)):=tab_pure (by kernel_rfl) (by kernel_rfl) (by kernel_rfl)
@[simp] theorem fn_29:fnOf 29= Tryz.f29:=by kernel_rfl
@[simp] theorem tb_29(n:Nat):tab (n+1) 29=some (.pure (run n 29)):=tab_pure (by kernel_rfl) (by kernel_rfl) (by kernel_rfl)
@[simp] theorem fn_30:fnOf 30= Tryz.f30:=by kernel_rfl
@[simp] theorem tb_30(n:Nat):tab (n+1) 30=some (.pure (oItoa)):=tab_num rfl _
@[simp] theorem fn_31:fnOf 31= Tryz.f31:=by kernel_rfl
@[simp] theorem tb_31(n:Nat):tab (n+1) 31=some (.pure (oDT)):=tab_num rfl _
@[simp] theorem fn_32:fnOf 32= Tryz.f32:=by kernel_rfl
@[simp] theorem tb_32(n:Nat):tab (n+1) 32=some (.pure (run n 32)):=tab_pure (by kernel_rfl) (by kernel_rfl) (by kernel_rfl)
@[simp] theorem fn_33:fnOf 33= Tryz.f33:=by kernel_rfl
@[simp] theorem tb_33(n:Nat):tab (n+1) 33=some (.pure (run n 33)):=tab_pure (by kernel_rfl) (by kernel_rfl) (by kernel_rfl)
@[simp] theorem fn_34:fnOf 34= Tryz.f34:=by kernel_rfl
@[simp] theorem tb_34(n:Nat):tab (n+1) 34=some (.pure (oSplit)):=tab_num rfl _
@[simp] theorem fn_35:fnOf 35= Tryz.f35:=by kernel_rfl
@[simp] theorem tb_35(n:Nat):tab (n+1) 35=some (.pure (oAtoiL)):=tab_num rfl _
@[simp] theorem fn_36:fnOf 36= Tryz.f36:=by kernel_rfl
@[simp] theorem tb_36(n:Nat):tab (n+1) 36=some (.pure (run n 36)):=tab_pure (by kernel_rfl) (by kernel_rfl) (by kernel_rfl)
@[simp] theorem fn_39:fnOf 39= Tryz.f39:=by kernel_rfl
@[simp] theorem tb_39(n:Nat):tab (n+1) 39=some (.pure (run n 39)):=tab_pure (by kernel_rfl) (by kernel_rfl) (by kernel_rfl)
@[simp] theorem fn_51:fnOf 51= Tryz.f51:=by kernel_rfl
@[simp] theorem tb_51(n:Nat):tab (n+1) 51=some (.pure (oU fun k=>natA (lmb k))):=tab_num rfl _
@[simp] theorem fn_57:fnOf 57= Tryz.f57:=by kernel_rfl
@[simp] theorem tb_57(n:Nat):tab (n+1) 57=some (.pure (oHasPrefix)):=tab_num rfl _
@[simp] theorem fn_68:fnOf 68= Tryz.f68:=by kernel_rfl
@[simp] theorem tb_68(n:Nat):tab (n+1) 68=some (.pure (run n 68)):=tab_pure (by kernel_rfl) (by kernel_rfl) (by kernel_rfl)
@[simp] theorem fn_70:fnOf 70= Tryz.f70:=by kernel_rfl
@[simp] theorem tb_70(n:Nat):tab (n+1) 70=some (.pure (run n 70)):=tab_pure (by kernel_rfl) (by kernel_rfl) (by kernel_rfl)
@[simp] theorem fn_71:fnOf 71= Tryz.f71:=by kernel_rfl
@[simp] theorem lv_71_3:livesOf 71 3=[3,7,8,9]:=by kernel_rfl
@[simp] theorem lv_71_1000003:livesOf 71 1000003=[2]:=by kernel_rfl
@[simp] theorem tb_71(n:Nat):tab (n+1) 71=some (.pure (run n 71)):=tab_pure (by kernel_rfl) (by kernel_rfl) (by kernel_rfl)
@[simp] theorem fn_72:fnOf 72= Tryz.f72:=by kernel_rfl
@[simp] theorem tb_72(n:Nat):tab (n+1) 72=some (.pure (run n 72)):=tab_pure (by kernel_rfl) (by kernel_rfl) (by kernel_rfl)
@[simp] theorem fn_73:fnOf 73= Tryz.f73:=by kernel_rfl
@[simp] theorem tb_73(n:Nat):tab (n+1) 73=some (.pure (run n 73)):=tab_pure (by kernel_rfl) (by kernel_rfl) (by kernel_rfl)
@[simp] theorem fn_74:fnOf 74= Tryz.f74:=by kernel_rfl
@[simp] theorem tb_74(n:Nat):tab (n+1) 74=some (.pure (run n 74)):=tab_pure (by kernel_rfl) (by kernel_rfl) (by kernel_rfl)
@[simp] theorem fn_75:fnOf 75= Tryz.f75:=by kernel_rfl
@[simp] theorem tb_75(n:Nat):tab (n+1) 75=some (.pure (run n 75)):=tab_pure (by kernel_rfl) (by kernel_rfl) (by kernel_rfl)
@[simp] theorem fn_76:fnOf 76= Tryz.f76:=by kernel_rfl
@[simp] theorem tb_76(n:Nat):tab (n+1) 76=some (.pure (run n 76)):=tab_pure (by kernel_rfl) (by kernel_rfl) (by kernel_rfl)
@[simp] theorem fn_78:fnOf 78= Tryz.f78:=by kernel_rfl
@[simp] theorem tb_78(n:Nat):tab (n+1) 78=some (.pure (run n 78)):=tab_pure (by kernel_rfl) (by kernel_rfl) (by kernel_rfl)
@[simp] theorem fn_79:fnOf 79= Tryz.f79:=by kernel_rfl
@[simp] theorem lv_79_3:livesOf 79 3=[0,3,4]:=by kernel_rfl
@[simp] theorem lv_79_7:livesOf 79 7=[3,4,5,8,26]:=by kernel_rfl
@[simp] theorem lv_79_12:livesOf 79 12=[3]:=by kernel_rfl
@[simp] theorem lv_79_1000003:livesOf 79 1000003=[3]:=by kernel_rfl
@[simp] theorem lv_79_1000007:livesOf 79 1000007=[3,4,5]:=by kernel_rfl
@[simp] theorem lv_79_1000012:livesOf 79 1000012=[3]:=by kernel_rfl
@[simp] theorem tb_79(n:Nat):tab (n+1) 79=some (.pure (run n 79)):=tab_pure (by kernel_rfl) (by kernel_rfl) (by kernel_rfl)
@[simp] theorem fn_80:fnOf 80= Tryz.f80:=by kernel_rfl
@[simp] theorem lv_80_2:livesOf 80 2=[0,3]:=by kernel_rfl
@[simp] theorem lv_80_1000002:livesOf 80 1000002=[3]:=by kernel_rfl
@[simp] theorem tb_80(n:Nat):tab (n+1) 80=some (.pure (run n 80)):=tab_pure (by kernel_rfl) (by kernel_rfl) (by kernel_rfl)
@[simp] theorem fn_81:fnOf 81= Tryz.f81:=by kernel_rfl
@[simp] theorem lv_81_11:livesOf 81 11=[0,1,2,3,9,10]:=by kernel_rfl
@[simp] theorem lv_81_1000011:livesOf 81 1000011=[0,9,10]:=by kernel_rfl
@[simp] theorem tb_81(n:Nat):tab (n+1) 81=some (.pure (run n 81)):=tab_pure (by kernel_rfl) (by kernel_rfl) (by kernel_rfl)
@[simp] theorem fn_82:fnOf 82= Tryz.f82:=by kernel_rfl
@[simp] theorem lv_82_10:livesOf 82 10=[5,6,47,48,49]:=by kernel_rfl
@[simp] theorem lv_82_1000010:livesOf 82 1000010=[2,3,5,6]:=by kernel_rfl
@[simp] theorem tb_82(n:Nat):tab (n+1) 82=some (.pure (run n 82)):=tab_pure (by kernel_rfl) (by kernel_rfl) (by kernel_rfl)
@[simp] theorem fn_83:fnOf 83= Tryz.f83:=by kernel_rfl
@[simp] theorem tb_83(n:Nat):tab (n+1) 83=some (.pure (run n 83)):=tab_pure (by kernel_rfl) (by kernel_rfl) (by kernel_rfl)
@[simp] theorem fn_84:fnOf 84= Tryz.f84:=by kernel_rfl
@[simp] theorem tb_84(n:Nat):tab (n+1) 84=some (.lin [true] (runL n 84)):=tab_lin (k:=false) (by kernel_rfl) (by kernel_rfl) (by kernel_rfl)
@[simp] theorem kp_84:keepOf 84=false:=by kernel_rfl
@[simp] theorem fn_87:fnOf 87= Tryz.f87:=by kernel_rfl
@[simp] theorem lv_87_2:livesOf 87 2=[0,1,2,9]:=by kernel_rfl
@[simp] theorem lv_87_1000002:livesOf 87 1000002=[1,2,6,7,8,9]:=by kernel_rfl
@[simp] theorem tb_87(n:Nat):tab (n+1) 87=some (.pure (run n 87)):=tab_pure (by kernel_rfl) (by kernel_rfl) (by kernel_rfl)
@[simp] theorem fn_88:fnOf 88= Tryz.f88:=by kernel_rfl
@[simp] theorem lv_88_3:livesOf 88 3=[0,3,4]:=by kernel_rfl
@[simp] theorem lv_88_1000003:livesOf 88 1000003=[3]:=by kernel_rfl
@[simp] theorem tb_88(n:Nat):tab (n+1) 88=some (.pure (run n 88)):=tab_pure (by kernel_rfl) (by kernel_rfl) (by kernel_rfl)
@[simp] theorem fn_89:fnOf 89= Tryz.f89:=by kernel_rfl
@[simp] theorem lv_89_4:livesOf 89 4=[0,1,5,6,7]:=by kernel_rfl
@[simp] theorem lv_89_1000004:livesOf 89 1000004=[5,6]:=by kernel_rfl
@[simp] theorem tb_89(n:Nat):tab (n+1) 89=some (.pure (oN2 fun x y=>natA (lmb (val x+val y)))):=tab_num rfl _
@[simp] theorem fn_90:fnOf 90= Tryz.f90:=by kernel_rfl
@[simp] theorem lv_90_3:livesOf 90 3=[0,1,5,6]:=by kernel_rfl
@[simp] theorem lv_90_7:livesOf 90 7=[0,1,5,6,7,8]:=by kernel_rfl
@[simp] theorem lv_90_1000003:livesOf 90 1000003=[5]:=by kernel_rfl
@[simp] theorem lv_90_1000007:livesOf 90 1000007=[0,1,5,6]:=by kernel_rfl
@[simp] theorem tb_90(n:Nat):tab (n+1) 90=some (.pure (oN2 fun x y=>natA (lmb (val x*val y)))):=tab_num rfl _
@[simp] theorem fn_91:fnOf 91= Tryz.f91:=by kernel_rfl
@[simp] theorem tb_91(n:Nat):tab (n+1) 91=some (.pure (run n 91)):=tab_pure (by kernel_rfl) (by kernel_rfl) (by kernel_rfl)
@[simp] theorem fn_102:fnOf 102= Tryz.f102:=by kernel_rfl
@[simp] theorem tb_102(n:Nat):tab (n+1) 102=some (.lin [true] (runL n 102)):=tab_lin (k:=false) (by kernel_rfl) (by kernel_rfl) (by kernel_rfl)
@[simp] theorem kp_102:keepOf 102=false:=by kernel_rfl
@[simp] theorem fn_103:fnOf 103= Tryz.f103:=by kernel_rfl
@[simp] theorem tb_103(n:Nat):tab (n+1) 103=some (.lin [true,false] (runL n 103)):=tab_lin (k:=false) (by kernel_rfl) (by kernel_rfl) (by kernel_rfl)
@[simp] theorem kp_103:keepOf 103=false:=by kernel_rfl
@[simp] theorem fn_105:fnOf 105= Tryz.f105:=by kernel_rfl
@[simp] theorem tb_105(n:Nat):tab (n+1) 105=some (.lin [true] (runL n 105)):=tab_lin (k:=false) (by kernel_rfl) (by kernel_rfl) (by kernel_rfl)
@[simp] theorem kp_105:keepOf 105=false:=by kernel_rfl
@[simp] theorem fn_106:fnOf 106= Tryz.f106:=by kernel_rfl
@[simp] theorem tb_106(n:Nat):tab (n+1) 106=some (.lin [true,false] (runL n 106)):=tab_lin (k:=false) (by kernel_rfl) (by kernel_rfl) (by kernel_rfl)
@[simp] theorem kp_106:keepOf 106=false:=by kernel_rfl
@[simp] theorem fn_107:fnOf 107= Tryz.f107:=by kernel_rfl
@[simp] theorem tb_107(n:Nat):tab (n+1) 107=some (.pure (fISgn)):=tab_num rfl _
@[simp] theorem fn_109:fnOf 109= Tryz.f109:=by kernel_rfl
@[simp] theorem lv_109_2:livesOf 109 2=[0,3]:=by kernel_rfl
@[simp] theorem lv_109_1000002:livesOf 109 1000002=[0,3]:=by kernel_rfl
@[simp] theorem tb_109(n:Nat):tab (n+1) 109=some (.pure (oN1 (fun _=>true) fun x=>natA (lmb (val x)))):=tab_num rfl _
@[simp] theorem fn_110:fnOf 110= Tryz.f110:=by kernel_rfl
@[simp] theorem lv_110_9:livesOf 110 9=[0,1,11,12,13]:=by kernel_rfl
@[simp] theorem lv_110_1000009:livesOf 110 1000009=[11,12]:=by kernel_rfl
@[simp] theorem tb_110(n:Nat):tab (n+1) 110=some (.pure (oND fun x y=>.tup [natA (lmb (val x / val y)),natA (lmb (val x % val y)),.lit (.int .i64 0)])):=tab_num rfl _
@[simp] theorem fn_111:fnOf 111= Tryz.f111:=by kernel_rfl
@[simp] theorem tb_111(n:Nat):tab (n+1) 111=some (.pure (oN1 u64N fun x=>.tup [.lit (.int .u64 (val x:Nat)),.lit (.bool true)])):=tab_num rfl _
@[simp] theorem fn_112:fnOf 112= Tryz.f112:=by kernel_rfl
@[simp] theorem tb_112(n:Nat):tab (n+1) 112=some (.pure (run n 112)):=tab_pure (by kernel_rfl) (by kernel_rfl) (by kernel_rfl)
@[simp] theorem fn_116:fnOf 116= Tryz.f116:=by kernel_rfl
@[simp] theorem tb_116(n:Nat):tab (n+1) 116=some (.pure (run n 116)):=tab_pure (by kernel_rfl) (by kernel_rfl) (by kernel_rfl)
@[simp] theorem fn_125:fnOf 125= Tryz.f125:=by kernel_rfl
@[simp] theorem tb_125(n:Nat):tab (n+1) 125=some (.pure (oIndex)):=tab_num rfl _
@[simp] theorem fn_129:fnOf 129= Tryz.f129:=by kernel_rfl
@[simp] theorem tb_129(n:Nat):tab (n+1) 129=some (.pure (oQt)):=tab_num rfl _
@[simp] theorem fn_130:fnOf 130= Tryz.f130:=by kernel_rfl
@[simp] theorem lv_130_2:livesOf 130 2=[0,1,7,8]:=by kernel_rfl
@[simp] theorem lv_130_1000002:livesOf 130 1000002=[4]:=by kernel_rfl
@[simp] theorem tb_130(n:Nat):tab (n+1) 130=some (.pure (run n 130)):=tab_pure (by kernel_rfl) (by kernel_rfl) (by kernel_rfl)
@[simp] theorem fn_133:fnOf 133= Tryz.f133:=by kernel_rfl
@[simp] theorem lv_133_7:livesOf 133 7=[0,1,5]:=by kernel_rfl
@[simp] theorem lv_133_1000007:livesOf 133 1000007=[4]:=by kernel_rfl
@[simp] theorem tb_133(n:Nat):tab (n+1) 133=some (.pure (run n 133)):=tab_pure (by kernel_rfl) (by kernel_rfl) (by kernel_rfl)
@[simp] theorem fn_134:fnOf 134= Tryz.f134:=by kernel_rfl
@[simp] theorem tb_134(n:Nat):tab (n+1) 134=some (.pure (run n 134)):=tab_pure (by kernel_rfl) (by kernel_rfl) (by kernel_rfl)
@[simp] theorem fn_135:fnOf 135= Tryz.f135:=by kernel_rfl
@[simp] theorem tb_135(n:Nat):tab (n+1) 135=some (.pure (oU fun k=>natA (lmb k))):=tab_num rfl _
@[simp] theorem fn_136:fnOf 136= Tryz.f136:=by kernel_rfl
@[simp] theorem tb_136(n:Nat):tab (n+1) 136=some (.pure (run n 136)):=tab_pure (by kernel_rfl) (by kernel_rfl) (by kernel_rfl)
@[simp] theorem fn_137:fnOf 137= Tryz.f137:=by kernel_rfl
@[simp] theorem lv_137_13:livesOf 137 13=[9,10,11,12,13]:=by kernel_rfl
@[simp] theorem lv_137_1000013:livesOf 137 1000013=[9,10,12]:=by kernel_rfl
@[simp] theorem tb_137(n:Nat):tab (n+1) 137=some (.pure (oND fun x y=>.tup [natA (lmb (val x / val y)),natA (lmb (val x % val y)),.lit (.int .i64 0)])):=tab_num rfl _
@[simp] theorem fn_138:fnOf 138= Tryz.f138:=by kernel_rfl
@[simp] theorem lv_138_6:livesOf 138 6=[4,12,13,14]:=by kernel_rfl
@[simp] theorem lv_138_1000006:livesOf 138 1000006=[4]:=by kernel_rfl
@[simp] theorem tb_138(n:Nat):tab (n+1) 138=some (.pure (oN1 u64N fun x=>.tup [.lit (.int .u64 (val x:Nat)),.lit (.bool true)])):=tab_num rfl _
@[simp] theorem fn_139:fnOf 139= Tryz.f139:=by kernel_rfl
@[simp] theorem lv_139_1:livesOf 139 1=[0,2,3]:=by kernel_rfl
@[simp] theorem lv_139_1000001:livesOf 139 1000001=[]:=by kernel_rfl
@[simp] theorem tb_139(n:Nat):tab (n+1) 139=some (.lin [true] (runL n 139)):=tab_lin (k:=false) (by kernel_rfl) (by kernel_rfl) (by kernel_rfl)
@[simp] theorem kp_139:keepOf 139=false:=by kernel_rfl
@[simp] theorem fn_140:fnOf 140= Tryz.f140:=by kernel_rfl
@[simp] theorem lv_140_6:livesOf 140 6=[0,1,6,7]:=by kernel_rfl
@[simp] theorem lv_140_1000006:livesOf 140 1000006=[0,1,6]:=by kernel_rfl
@[simp] theorem tb_140(n:Nat):tab (n+1) 140=some (.pure (run n 140)):=tab_pure (by kernel_rfl) (by kernel_rfl) (by kernel_rfl)
@[simp] theorem fn_141:fnOf 141= Tryz.f141:=by kernel_rfl
@[simp] theorem lv_141_6:livesOf 141 6=[0,1,5]:=by kernel_rfl
@[simp] theorem lv_141_1000006:livesOf 141 1000006=[4]:=by kernel_rfl
@[simp] theorem tb_141(n:Nat):tab (n+1) 141=some (.pure (run n 141)):=tab_pure (by kernel_rfl) (by kernel_rfl) (by kernel_rfl)
@[simp] theorem fn_142:fnOf 142= Tryz.f142:=by kernel_rfl
@[simp] theorem tb_142(n:Nat):tab (n+1) 142=some (.pure (run n 142)):=tab_pure (by kernel_rfl) (by kernel_rfl) (by kernel_rfl)
@[simp] theorem fn_143:fnOf 143= Tryz.f143:=by kernel_rfl
@[simp] theorem tb_143(n:Nat):tab (n+1) 143=some (.lin [] (runL n 143)):=tab_lin (k:=true) (by kernel_rfl) (by kernel_rfl) (by kernel_rfl)
@[simp] theorem kp_143:keepOf 143=true:=by kernel_rfl
@[simp] theorem fn_144:fnOf 144= Tryz.f144:=by kernel_rfl
@[simp] theorem tb_144(n:Nat):tab (n+1) 144=some (.lin [] (runL n 144)):=tab_lin (k:=true) (by kernel_rfl) (by kernel_rfl) (by kernel_rfl)
@[simp] theorem kp_144:keepOf 144=true:=by kernel_rfl
@[simp] theorem fn_145:fnOf 145= Tryz.f145:=by kernel_rfl
@[simp] theorem tb_145(n:Nat):tab (n+1) 145=some (.lin [] (runL n 145)):=tab_lin (k:=true) (by kernel_rfl) (by kernel_rfl) (by kernel_rfl)
@[simp] theorem kp_145:keepOf 145=true:=by kernel_rfl
@[simp] theorem fn_146:fnOf 146= Tryz.f146:=by kernel_rfl
@[simp] theorem tb_146(n:Nat):tab (n+1) 146=some (.lin [] (runL n 146)):=tab_lin (k:=true) (by kernel_rfl) (by kernel_rfl) (by kernel_rfl)
@[simp] theorem kp_146:keepOf 146=true:=by kernel_rfl
@[simp] theorem fn_147:fnOf 147= Tryz.f147:=by kernel_rfl
@[simp] theorem tb_147(n:Nat):tab (n+1) 147=some (.lin [true,false] (runL n 147)):=tab_lin (k:=false) (by kernel_rfl) (by kernel_rfl) (by kernel_rfl)
@[simp] theorem kp_147:keepOf 147=false:=by kernel_rfl
@[simp] theorem fn_148:fnOf 148= Tryz.f148:=by kernel_rfl
@[simp] theorem lv_148_2:livesOf 148 2=[0,4]:=by kernel_rfl
@[simp] theorem lv_148_1000002:livesOf 148 1000002=[0,2,3,4]:=by kernel_rfl
@[simp] theorem tb_148(n:Nat):tab (n+1) 148=some (.lin [true] (runL n 148)):=tab_lin (k:=false) (by kernel_rfl) (by kernel_rfl) (by kernel_rfl)
@[simp] theorem kp_148:keepOf 148=false:=by kernel_rfl
@[simp] theorem fn_149:fnOf 149= Tryz.f149:=by kernel_rfl
@[simp] theorem lv_149_2:livesOf 149 2=[0,3]:=by kernel_rfl
@[simp] theorem lv_149_6:livesOf 149 6=[0,3,4,5,6,18,19,20]:=by kernel_rfl
@[simp] theorem lv_149_1000002:livesOf 149 1000002=[3]:=by kernel_rfl
@[simp] theorem lv_149_1000006:livesOf 149 1000006=[0,3,4,5,6]:=by kernel_rfl
@[simp] theorem tb_149(n:Nat):tab (n+1) 149=some (.pure (run n 149)):=tab_pure (by kernel_rfl) (by kernel_rfl) (by kernel_rfl)
@[simp] theorem fn_150:fnOf 150= Tryz.f150:=by kernel_rfl
@[simp] theorem lv_150_38:livesOf 150 38=[7,8,9]:=by kernel_rfl
@[simp] theorem lv_150_1000038:livesOf 150 1000038=[9]:=by kernel_rfl
@[simp] theorem tb_150(n:Nat):tab (n+1) 150=some (.pure (oRepeat)):=tab_num rfl _
@[simp] theorem fn_151:fnOf 151= Tryz.f151:=by kernel_rfl
@[simp] theorem tb_151(n:Nat):tab (n+1) 151=some (.pure (run n 151)):=tab_pure (by kernel_rfl) (by kernel_rfl) (by kernel_rfl)
@[simp] theorem fn_152:fnOf 152= Tryz.f152:=by kernel_rfl
@[simp] theorem tb_152(n:Nat):tab (n+1) 152=some (.pure (run n 152)):=tab_pure (by kernel_rfl) (by kernel_rfl) (by kernel_rfl)
@[simp] theorem fn_154:fnOf 154= Tryz.f154:=by kernel_rfl
@[simp] theorem tb_154(n:Nat):tab (n+1) 154=some (.pure (run n 154)):=tab_pure (by kernel_rfl) (by kernel_rfl) (by kernel_rfl)
@[simp] theorem fn_160:fnOf 160= Tryz.f160:=by kernel_rfl
@[simp] theorem tb_160(n:Nat):tab (n+1) 160=some (.pure (run n 160)):=tab_pure (by kernel_rfl) (by kernel_rfl) (by kernel_rfl)
@[simp] theorem fn_161:fnOf 161= Tryz.f161:=by kernel_rfl
@[simp] theorem tb_161(n:Nat):tab (n+1) 161=some (.lin [true] ccG):=tab_num rfl _
@[simp] theorem fn_163:fnOf 163= Tryz.f163:=by kernel_rfl
@[simp] theorem tb_163(n:Nat):tab (n+1) 163=some (.lin [true,false] (runL n 163)):=tab_lin (k:=false) (by kernel_rfl) (by kernel_rfl) (by kernel_rfl)
@[simp] theorem kp_163:keepOf 163=false:=by kernel_rfl
@[simp] theorem fn_164:fnOf 164= Tryz.f164:=by kernel_rfl
@[simp] theorem lv_164_6:livesOf 164 6=[3,4]:=by kernel_rfl
@[simp] theorem lv_164_1000006:livesOf 164 1000006=[3]:=by kernel_rfl
@[simp] theorem tb_164(n:Nat):tab (n+1) 164=some (.pure (run n 164)):=tab_pure (by kernel_rfl) (by kernel_rfl) (by kernel_rfl)
@[simp] theorem fn_165:fnOf 165= Tryz.f165:=by kernel_rfl
@[simp] theorem lv_165_4:livesOf 165 4=[0,1,5,6,7]:=by kernel_rfl
@[simp] theorem lv_165_1000004:livesOf 165 1000004=[5,6]:=by kernel_rfl
@[simp] theorem tb_165(n:Nat):tab (n+1) 165=some (.pure (run n 165)):=tab_pure (by kernel_rfl) (by kernel_rfl) (by kernel_rfl)
@[simp] theorem fn_166:fnOf 166= Tryz.f166:=by kernel_rfl
@[simp] theorem lv_166_2:livesOf 166 2=[0,1,5]:=by kernel_rfl
@[simp] theorem lv_166_1000002:livesOf 166 1000002=[4]:=by kernel_rfl
@[simp] theorem tb_166(n:Nat):tab (n+1) 166=some (.pure (run n 166)):=tab_pure (by kernel_rfl) (by kernel_rfl) (by kernel_rfl)
@[simp] theorem fn_167:fnOf 167= Tryz.f167:=by kernel_rfl
@[simp] theorem lv_167_6:livesOf 167 6=[0,1,6,7,8]:=by kernel_rfl
@[simp] theorem lv_167_1000006:livesOf 167 1000006=[6]:=by kernel_rfl
@[simp] theorem tb_167(n:Nat):tab (n+1) 167=some (.pure (run n 167)):=tab_pure (by kernel_rfl) (by kernel_rfl) (by kernel_rfl)
@[simp] theorem fn_178:fnOf 178= Tryz.f178:=by kernel_rfl
@[simp] theorem lv_178_15:livesOf 178 15=[0,1,5,6,7,8,9,10]:=by kernel_rfl
@[simp] theorem lv_178_1000015:livesOf 178 1000015=[4]:=by kernel_rfl
@[simp] theorem tb_178(n:Nat):tab (n+1) 178=some (.pure (run n 178)):=tab_pure (by kernel_rfl) (by kernel_rfl) (by kernel_rfl)
@[simp] theorem fn_184:fnOf 184= Tryz.f184:=by kernel_rfl
@[simp] theorem lv_184_2:livesOf 184 2=[0,1]:=by kernel_rfl
@[simp] theorem lv_184_1000002:livesOf 184 1000002=[0]:=by kernel_rfl
@[simp] theorem tb_184(n:Nat):tab (n+1) 184=some (.pure (run n 184)):=tab_pure (by kernel_rfl) (by kernel_rfl) (by kernel_rfl)
@[simp] theorem fn_185:fnOf 185= Tryz.f185:=by kernel_rfl
@[simp] theorem tb_185(n:Nat):tab (n+1) 185=some (.pure (oQt)):=tab_num rfl _
@[simp] theorem fn_187:fnOf 187= Tryz.f187:=by kernel_rfl
@[simp] theorem lv_187_2:livesOf 187 2=[0,3]:=by kernel_rfl
@[simp] theorem lv_187_1000002:livesOf 187 1000002=[0,3]:=by kernel_rfl
@[simp] theorem tb_187(n:Nat):tab (n+1) 187=some (.pure (run n 187)):=tab_pure (by kernel_rfl) (by kernel_rfl) (by kernel_rfl)
@[simp] theorem fn_188:fnOf 188= Tryz.f188:=by kernel_rfl
@[simp] theorem tb_188(n:Nat):tab (n+1) 188=some (.pure (run n 188)):=tab_pure (by kernel_rfl) (by kernel_rfl) (by kernel_rfl)
@[simp] theorem fn_189:fnOf 189= Tryz.f189:=by kernel_rfl
@[simp] theorem tb_189(n:Nat):tab (n+1) 189=some (.pure (run n 189)):=tab_pure (by kernel_rfl) (by kernel_rfl) (by kernel_rfl)
@[simp] theorem fn_190:fnOf 190= Tryz.f190:=by kernel_rfl
@[simp] theorem lv_190_1:livesOf 190 1=[0,1,4]:=by kernel_rfl
@[simp] theorem lv_190_1000001:livesOf 190 1000001=[0,1,4]:=by kernel_rfl
@[simp] theorem tb_190(n:Nat):tab (n+1) 190=some (.lin [true,false] (runL n 190)):=tab_lin (k:=false) (by kernel_rfl) (by kernel_rfl) (by kernel_rfl)
@[simp] theorem kp_190:keepOf 190=false:=by kernel_rfl
@[simp] theorem fn_191:fnOf 191= Tryz.f191:=by kernel_rfl
@[simp] theorem lv_191_11:livesOf 191 11=[0,1,3,4,10,11,12,13,14,15,16]:=by kernel_rfl
@[simp] theorem lv_191_18:livesOf 191 18=[0,1,3,4,10,11,12,13,17]:=by kernel_rfl
@[simp] theorem lv_191_1000011:livesOf 191 1000011=[0,1,3,4,10,11,12,13]:=by kernel_rfl
@[simp] theorem lv_191_1000018:livesOf 191 1000018=[0,1,3,4,10,11,12,13]:=by kernel_rfl
@[simp] theorem tb_191(n:Nat):tab (n+1) 191=some (.lin [true,false,false,false,false] (runL n 191)):=tab_lin (k:=true) (by kernel_rfl) (by kernel_rfl) (by kernel_rfl)
@[simp] theorem kp_191:keepOf 191=true:=by kernel_rfl
@[simp] theorem fn_192:fnOf 192= Tryz.f192:=by kernel_rfl
@[simp] theorem tb_192(n:Nat):tab (n+1) 192=some (.pure (run n 192)):=tab_pure (by kernel_rfl) (by kernel_rfl) (by kernel_rfl)
@[simp] theorem fn_193:fnOf 193= Tryz.f193:=by kernel_rfl
@[simp] theorem tb_193(n:Nat):tab (n+1) 193=some (.pure (oN1 (fun _=>true) fun x=>natA (lmb (val x)))):=tab_num rfl _
@[simp] theorem fn_194:fnOf 194= Tryz.f194:=by kernel_rfl
@[simp] theorem lv_194_4:livesOf 194 4=[0,1,6,7,8]:=by kernel_rfl
@[simp] theorem lv_194_1000004:livesOf 194 1000004=[6,7]:=by kernel_rfl
@[simp] theorem tb_194(n:Nat):tab (n+1) 194=some (.pure (run n 194)):=tab_pure (by kernel_rfl) (by kernel_rfl) (by kernel_rfl)
@[simp] theorem fn_195:fnOf 195= Tryz.f195:=by kernel_rfl
@[simp] theorem tb_195(n:Nat):tab (n+1) 195=some (.pure (run n 195)):=tab_pure (by kernel_rfl) (by kernel_rfl) (by kernel_rfl)
@[simp] theorem fn_196:fnOf 196= Tryz.f196:=by kernel_rfl
@[simp] theorem lv_196_3:livesOf 196 3=[1,5,13,14,15]:=by kernel_rfl
@[simp] theorem lv_196_1000003:livesOf 196 1000003=[5]:=by kernel_rfl
@[simp] theorem tb_196(n:Nat):tab (n+1) 196=some (.pure (run n 196)):=tab_pure (by kernel_rfl) (by kernel_rfl) (by kernel_rfl)
@[simp] theorem fn_197:fnOf 197= Tryz.f197:=by kernel_rfl
@[simp] theorem lv_197_3:livesOf 197 3=[0,1,2,7,8,15,16,17]:=by kernel_rfl
@[simp] theorem lv_197_17:livesOf 197 17=[0,1,2,7,70,71,72]:=by kernel_rfl
@[simp] theorem lv_197_1000003:livesOf 197 1000003=[0,1,2,7,8]:=by kernel_rfl
@[simp] theorem lv_197_1000017:livesOf 197 1000017=[0,1,2,7]:=by kernel_rfl
@[simp] theorem tb_197(n:Nat):tab (n+1) 197=some (.lin [true,false,false] (runL n 197)):=tab_lin (k:=false) (by kernel_rfl) (by kernel_rfl) (by kernel_rfl)
@[simp] theorem kp_197:keepOf 197=false:=by kernel_rfl
@[simp] theorem fn_198:fnOf 198= Tryz.f198:=by kernel_rfl
@[simp] theorem lv_198_4:livesOf 198 4=[0,1,5,7,8]:=by kernel_rfl
@[simp] theorem lv_198_1000004:livesOf 198 1000004=[7]:=by kernel_rfl
@[simp] theorem tb_198(n:Nat):tab (n+1) 198=some (.pure (run n 198)):=tab_pure (by kernel_rfl) (by kernel_rfl) (by kernel_rfl)
@[simp] theorem fn_199:fnOf 199= Tryz.f199:=by kernel_rfl
@[simp] theorem lv_199_9:livesOf 199 9=[0,1,6,30,31,32]:=by kernel_rfl
@[simp] theorem lv_199_1000009:livesOf 199 1000009=[6]:=by kernel_rfl
@[simp] theorem tb_199(n:Nat):tab (n+1) 199=some (.pure (run n 199)):=tab_pure (by kernel_rfl) (by kernel_rfl) (by kernel_rfl)
@[simp] theorem fn_200:fnOf 200= Tryz.f200:=by kernel_rfl
@[simp] theorem lv_200_2:livesOf 200 2=[2,4]:=by kernel_rfl
@[simp] theorem lv_200_1000002:livesOf 200 1000002=[2]:=by kernel_rfl
@[simp] theorem tb_200(n:Nat):tab (n+1) 200=some (.pure (run n 200)):=tab_pure (by kernel_rfl) (by kernel_rfl) (by kernel_rfl)
@[simp] theorem fn_202:fnOf 202= Tryz.f202:=by kernel_rfl
@[simp] theorem lv_202_36:livesOf 202 36=[1,8,9,10,11,12,13,99,100,101]:=by kernel_rfl
@[simp] theorem lv_202_1000036:livesOf 202 1000036=[6,7,9,12,13]:=by kernel_rfl
@[simp] theorem tb_202(n:Nat):tab (n+1) 202=some (.pure (run n 202)):=tab_pure (by kernel_rfl) (by kernel_rfl) (by kernel_rfl)
@[simp] theorem fn_203:fnOf 203= Tryz.f203:=by kernel_rfl
@[simp] theorem tb_203(n:Nat):tab (n+1) 203=some (.pure (run n 203)):=tab_pure (by kernel_rfl) (by kernel_rfl) (by kernel_rfl)
@[simp] theorem fn_204:fnOf 204= Tryz.f204:=by kernel_rfl
@[simp] theorem tb_204(n:Nat):tab (n+1) 204=some (.pure (run n 204)):=tab_pure (by kernel_rfl) (by kernel_rfl) (by kernel_rfl)
@[simp] theorem fn_205:fnOf 205= Tryz.f205:=by kernel_rfl
@[simp] theorem lv_205_7:livesOf 205 7=[0,1,5,6,24,25,26]:=by kernel_rfl
@[simp] theorem lv_205_1000007:livesOf 205 1000007=[0,5,6]:=by kernel_rfl
@[simp] theorem tb_205(n:Nat):tab (n+1) 205=some (.pure (oN2 fun x y=>natA (lmb (val x+val y)))):=tab_num rfl _
@[simp] theorem fn_206:fnOf 206= Tryz.f206:=by kernel_rfl
@[simp] theorem lv_206_6:livesOf 206 6=[1,5,29,30,31]:=by kernel_rfl
@[simp] theorem lv_206_10:livesOf 206 10=[1,5,6,7,8,29,30,31,36,37,38]:=by kernel_rfl
@[simp] theorem lv_206_1000006:livesOf 206 1000006=[5]:=by kernel_rfl
@[simp] theorem lv_206_1000010:livesOf 206 1000010=[1,5,6,8,29,30,31]:=by kernel_rfl
@[simp] theorem tb_206(n:Nat):tab (n+1) 206=some (.pure (oN2 fun x y=>natA (lmb (val x*val y)))):=tab_num rfl _
@[simp] theorem fn_207:fnOf 207= Tryz.f207:=by kernel_rfl
@[simp] theorem tb_207(n:Nat):tab (n+1) 207=some (.pure (run n 207)):=tab_pure (by kernel_rfl) (by kernel_rfl) (by kernel_rfl)
@[simp] theorem fn_213:fnOf 213= Tryz.f213:=by kernel_rfl
@[simp] theorem tb_213(n:Nat):tab (n+1) 213=some (.pure (run n 213)):=tab_pure (by kernel_rfl) (by kernel_rfl) (by kernel_rfl)
@[simp] theorem fn_225:fnOf 225= Tryz.f225:=by kernel_rfl
@[simp] theorem tb_225(n:Nat):tab (n+1) 225=some (.pure (run n 225)):=tab_pure (by kernel_rfl) (by kernel_rfl) (by kernel_rfl)
@[simp] theorem fn_227:fnOf 227= Tryz.f227:=by kernel_rfl
@[simp] theorem tb_227(n:Nat):tab (n+1) 227=some (.pure (run n 227)):=tab_pure (by kernel_rfl) (by kernel_rfl) (by kernel_rfl)
@[simp] theorem fn_228:fnOf 228= Tryz.f228:=by kernel_rfl
@[simp] theorem lv_228_5:livesOf 228 5=[0,1,5,6,7,8,9]:=by kernel_rfl
@[simp] theorem lv_228_11:livesOf 228 11=[0,1,5,6,7,8,10]:=by kernel_rfl
@[simp] theorem lv_228_1000005:livesOf 228 1000005=[0,1,5,6,7,8]:=by kernel_rfl
@[simp] theorem lv_228_1000011:livesOf 228 1000011=[4]:=by kernel_rfl
@[simp] theorem tb_228(n:Nat):tab (n+1) 228=some (.pure (run n 228)):=tab_pure (by kernel_rfl) (by kernel_rfl) (by kernel_rfl)
@[simp] theorem fn_235:fnOf 235= Tryz.f235:=by kernel_rfl
@[simp] theorem tb_235(n:Nat):tab (n+1) 235=some (.pure (run n 235)):=tab_pure (by kernel_rfl) (by kernel_rfl) (by kernel_rfl)
@[simp] theorem fn_236:fnOf 236= Tryz.f236:=by kernel_rfl
@[simp] theorem lv_236_2:livesOf 236 2=[0,1]:=by kernel_rfl
@[simp] theorem lv_236_10:livesOf 236 10=[11,13]:=by kernel_rfl
@[simp] theorem lv_236_1000002:livesOf 236 1000002=[0,1]:=by kernel_rfl
@[simp] theorem lv_236_1000010:livesOf 236 1000010=[11]:=by kernel_rfl
@[simp] theorem tb_236(n:Nat):tab (n+1) 236=some (.pure (run n 236)):=tab_pure (by kernel_rfl) (by kernel_rfl) (by kernel_rfl)
@[simp] theorem fn_238:fnOf 238= Tryz.f238:=by kernel_rfl
@[simp] theorem tb_238(n:Nat):tab (n+1) 238=some (.pure (run n 238)):=tab_pure (by kernel_rfl) (by kernel_rfl) (by kernel_rfl)
@[simp] theorem fn_239:fnOf 239= Tryz.f239:=by kernel_rfl
@[simp] theorem tb_239(n:Nat):tab (n+1) 239=some (.pure (run n 239)):=tab_pure (by kernel_rfl) (by kernel_rfl) (by kernel_rfl)
@[simp] theorem fn_240:fnOf 240= Tryz.f240:=by kernel_rfl
@[simp] theorem tb_240(n:Nat):tab (n+1) 240=some (.pure (run n 240)):=tab_pure (by kernel_rfl) (by kernel_rfl) (by kernel_rfl)
@[simp] theorem fn_241:fnOf 241= Tryz.f241:=by kernel_rfl
@[simp] theorem tb_241(n:Nat):tab (n+1) 241=some (.pure (run n 241)):=tab_pure (by kernel_rfl) (by kernel_rfl) (by kernel_rfl)
@[simp] theorem fn_242:fnOf 242= Tryz.f242:=by kernel_rfl
@[simp] theorem tb_242(n:Nat):tab (n+1) 242=some (.pure (run n 242)):=tab_pure (by kernel_rfl) (by kernel_rfl) (by kernel_rfl)
@[simp] theorem fn_243:fnOf 243= Tryz.f243:=by kernel_rfl
@[simp] theorem tb_243(n:Nat):tab (n+1) 243=some (.pure (run n 243)):=tab_pure (by kernel_rfl) (by kernel_rfl) (by kernel_rfl)
@[simp] theorem fn_244:fnOf 244= Tryz.f244:=by kernel_rfl
@[simp] theorem tb_244(n:Nat):tab (n+1) 244=some (.pure (run n 244)):=tab_pure (by kernel_rfl) (by kernel_rfl) (by kernel_rfl)
@[simp] theorem fn_245:fnOf 245= Tryz.f245:=by kernel_rfl
@[simp] theorem lv_245_10:livesOf 245 10=[0,3,4,5]:=by kernel_rfl
@[simp] theorem lv_245_1000010:livesOf 245 1000010=[2,3]:=by kernel_rfl
@[simp] theorem tb_245(n:Nat):tab (n+1) 245=some (.pure (run n 245)):=tab_pure (by kernel_rfl) (by kernel_rfl) (by kernel_rfl)
@[simp] theorem fn_246:fnOf 246= Tryz.f246:=by kernel_rfl
@[simp] theorem tb_246(n:Nat):tab (n+1) 246=some (.pure (run n 246)):=tab_pure (by kernel_rfl) (by kernel_rfl) (by kernel_rfl)
@[simp] theorem fn_247:fnOf 247= Tryz.f247:=by kernel_rfl
@[simp] theorem tb_247(n:Nat):tab (n+1) 247=some (.pure (run n 247)):=tab_pure (by kernel_rfl) (by kernel_rfl) (by kernel_rfl)
@[simp] theorem fn_254:fnOf 254= Tryz.f254:=by kernel_rfl
@[simp] theorem lv_254_3:livesOf 254 3=[0,4,5]:=by kernel_rfl
@[simp] theorem lv_254_8:livesOf 254 8=[4,6,7,8]:=by kernel_rfl
@[simp] theorem lv_254_1000003:livesOf 254 1000003=[0,4]:=by kernel_rfl
@[simp] theorem lv_254_1000008:livesOf 254 1000008=[4,6]:=by kernel_rfl
@[simp] theorem tb_254(n:Nat):tab (n+1) 254=some (.pure (run n 254)):=tab_pure (by kernel_rfl) (by kernel_rfl) (by kernel_rfl)
@[simp] theorem fn_256:fnOf 256= Tryz.f256:=by kernel_rfl
@[simp] theorem tb_256(n:Nat):tab (n+1) 256=some (.pure (run n 256)):=tab_pure (by kernel_rfl) (by kernel_rfl) (by kernel_rfl)
@[simp] theorem fn_257:fnOf 257= Tryz.f257:=by kernel_rfl
@[simp] theorem tb_257(n:Nat):tab (n+1) 257=some (.pure (run n 257)):=tab_pure (by kernel_rfl) (by kernel_rfl) (by kernel_rfl)
end
section
open Go.RowKit
def ratC(q:Rat):List AV:=[.lit (.bool (rawQ q).s),natA (rawQ q).l1,natA (rawQ q).l2]
def termC(t:Int × Rat):List AV:=[.lit (.int .i64 t.1),.lit (.bool (rawQ t.2).s),natA (rawQ t.2).l1,natA (rawQ t.2).l2]
abbrev Form:=List (Int × Rat) × Rat
def formC(f:Form):List AV:=[.sl 4 (f.1.map termC),.lit (.bool (rawQ f.2).s),natA (rawQ f.2).l1,natA (rawQ f.2).l2]
theorem roomy_s{n b:Nat}(h:n≤100000000)(hb:b≤10000):roomy n b=true:=by
 unfold roomy
 have:n*b≤100000000*10000:=Nat.mul_le_mul h hb
 rw [Bool.and_eq_true]
 exact ⟨decide_eq_true (by omega),decide_eq_true (by omega)⟩
noncomputable def fAdd:List AV→Option AV:=o2 fun x y=>ratA (x.q+y.q)
@[simp] theorem tn_add(n:Nat):tab n 229=some (.pure fAdd):=tab_num rfl n
@[simp] theorem tn_padd(n:Nat):tab n 157=some (.pure fAdd):=tab_num rfl n
noncomputable def fSub:List AV→Option AV:=o2 fun x y=>ratA (x.q-y.q)
noncomputable def fMul:List AV→Option AV:=o2 fun x y=>ratA (x.q*y.q)
@[simp] theorem tn_mul(n:Nat):tab n 231=some (.pure fMul):=tab_num rfl n
@[simp] theorem tn_pmul(n:Nat):tab n 158=some (.pure fMul):=tab_num rfl n
noncomputable def fNeg:List AV→Option AV:=o1 fun x=>ratA (-x.q)
noncomputable def fCanon:List AV→Option AV:=o1 fun x=>ratA x.q
@[simp] theorem tn_canon(n:Nat):tab n 86=some (.pure fCanon):=tab_num rfl n
@[simp] theorem tn_pcanon(n:Nat):tab n 132=some (.pure fCanon):=tab_num rfl n
noncomputable def fSign:List AV→Option AV:=o1 fun x=>.lit (.int .i64 (sgR x.q))
@[simp] theorem tn_sign(n:Nat):tab n 53=some (.pure fSign):=tab_num rfl n
@[simp] theorem tn_psign(n:Nat):tab n 49=some (.pure fSign):=tab_num rfl n
noncomputable def fCmp:List AV→Option AV:=o2 fun x y=>.lit (.int .i64 (sgR (x.q-y.q)))
noncomputable def fSame:List AV→Option AV:=o2 fun x y=>.lit (.bool (decide (x.s=y.s∧x.l1=y.l1∧x.l2=y.l2)))
@[simp] theorem tn_same(n:Nat):tab n 37=some (.pure fSame):=tab_num rfl n
noncomputable def fValid:List AV→Option AV:=o1 fun x=>.lit (.bool (decide (RatV x.s x.l1 x.l2)))
@[simp] theorem tn_valid(n:Nat):tab n 38=some (.pure fValid):=tab_num rfl n
@[simp] theorem tn_pvalid(n:Nat):tab n 77=some (.pure fValid):=tab_num rfl n
noncomputable def fOf:List AV→Option AV:=oZ fun z=>ratA (z:Rat)
@[simp] theorem tn_of(n:Nat):tab n 41=some (.pure fOf):=tab_num rfl n
@[simp] theorem tn_pof(n:Nat):tab n 156=some (.pure fOf):=tab_num rfl n
noncomputable def fFrac:List AV→Option AV:=oZZ fun x y=>.tup [ratA ((x:Rat) / (y:Rat)),.lit (.int .i64 0)]
@[simp] theorem tn_frac(n:Nat):tab n 24=some (.pure fFrac):=tab_num rfl n
end
section
open Go.RowKit
@[simp] theorem z0s:(rawQ 0).s=false:=rfl
@[simp] theorem z0n:natA (rawQ 0).l1=.sl 1 []:=by
  have e:(rawQ 0).l1=[]:=by decide+kernel
  rw [e];rfl
@[simp] theorem z0d:natA (rawQ 0).l2=.sl 1 []:=by
  have e:(rawQ 0).l2=[]:=by decide+kernel
  rw [e];rfl
@[simp] def ratV(q:Rat):AV:=.agg [.lit (.bool (rawQ q).s),natA (rawQ q).l1,natA (rawQ q).l2]
@[simp] def formV(f:Form):AV:=.agg [.sl 4 (f.1.map termC),.lit (.bool (rawQ f.2).s),natA (rawQ f.2).l1,natA (rawQ f.2).l2]
attribute [simp] ratC termC formC loopsOf roomy_s
def absQ(q:Rat):Rat:=if q.num<0 then -q else q
theorem neg_nm(q:Rat):(-q).num=-q.num:=rfl
theorem neg_dn(q:Rat):(-q).den=q.den:=rfl
theorem absQ_raw(q:Rat):rawQ (absQ q)=⟨false,(rawQ q).l1,(rawQ q).l2⟩:=by
 by_cases h:q.num<0
 ·have e:absQ q=-q:=if_pos h
  have e2:decide (-q.num<0)=false:=decide_eq_false (by omega)
  rw [e]
  unfold rawQ
  rw [neg_nm,neg_dn,Int.natAbs_neg,e2]
 ·have e:absQ q=q:=if_neg h
  have e2:decide (q.num<0)=false:=decide_eq_false h
  rw [e]
  unfold rawQ
  rw [e2]
@[simp] theorem absQ_s(q:Rat):(rawQ (absQ q)).s=false:=by rw [absQ_raw]
@[simp] theorem absQ_n(q:Rat):(rawQ (absQ q)).l1=(rawQ q).l1:=by rw [absQ_raw]
@[simp] theorem absQ_d(q:Rat):(rawQ (absQ q)).l2=(rawQ q).l2:=by rw [absQ_raw]
def InI(z:Int):Prop:=-9223372036854775808≤z∧z≤9223372036854775807
@[simp] def intI64C(z:Int):List AV:=[.lit (.int .i64 z)]
@[simp] def intU8C(z:Int):List AV:=[.lit (.int .u8 z)]
@[simp] def intU32C(z:Int):List AV:=[.lit (.int .u32 z)]
@[simp] def boolC(b:Bool):List AV:=[.lit (.bool b)]
@[simp] def strC(s:ByteArray):List AV:=[.lit (.string s)]
@[simp] theorem okE_ratC(l:List Rat):okEls 3 (l.map ratC)=true:=okEls_map (fun x=>by simp) l
@[simp] theorem okE_termC(l:List (Int × Rat)):okEls 4 (l.map termC)=true:=okEls_map (fun x=>by simp) l
@[simp] theorem okE_formC(l:List Form):okEls 4 (l.map formC)=true:=okEls_map (fun x=>by simp) l
@[simp] theorem okE_intI64C(l:List Int):okEls 1 (l.map intI64C)=true:=okEls_map (fun x=>by simp) l
@[simp] theorem okE_intU8C(l:List Int):okEls 1 (l.map intU8C)=true:=okEls_map (fun x=>by simp) l
@[simp] theorem okE_boolC(l:List Bool):okEls 1 (l.map boolC)=true:=okEls_map (fun x=>by simp) l
@[simp] theorem okE_strC(l:List ByteArray):okEls 1 (l.map strC)=true:=okEls_map (fun x=>by simp) l
section
variable {α β γ : Type} {P : Program} {O : FuncId → Option Orc} {m N : Nat} {lives : Nat → List Nat} {r : Nat} {C : Code} {M : Nat} {L : List α} {enc : Nat → β → St} {exN exE : Ex}
noncomputable def loopG(P:Program)(O:FuncId→Option Orc)(m N:Nat)(lives:Nat→List Nat)(r:Nat)(C:Code)(e:St):Option (Ex × St):=
 match (match exec P O m N lives big C e with
  | some (.nrm,s')=>loopS m (exec P O m N lives big C) (lives r) 4294967295 s'
  | x=>x) with
 | some (ex,s')=>(match gc m (lives (outOf r)) s' with|some s2=>some (ex,s2)|none=>none)
 | none=>none
theorem loopX_G{C':Code}{s e:St}(hC:C=C')(hg:gc m (lives r) s=some e):loopX P O m N lives big r C s=loopG P O m N lives r C' e:=by
 subst hC
 unfold loopX loopG
 have hb:loopS m (exec P O m N lives big C) (lives r) big s=loopS m (exec P O m N lives big C) (lives r) (4294967295+1) s:=rfl
 rw [hb,loopS,hg]
 dsimp only
 cases exec P O m N lives big C e with
 | none=>rfl
 | some p=>
   obtain ⟨ex,s1⟩:=p
   cases ex <;>rfl
theorem loopS_Q{live outL:List Nat}{step:St→Option (Ex × St)}{Inv:Nat→β→Prop}{Q:Ex→St→Prop}(hstep:∀i b,i<M→Inv i b→(∃b',Cont m step live (enc i b) (enc (i+1) b')∧Inv (i+1) b')∨(∃ex t,ex≠.nrm∧Leave m step outL (enc i b) ex t∧Q ex t))(hend:∀b,Inv M b→∃ex t,ex≠.nrm∧Leave m step outL (enc M b) ex t∧Q ex t):
  ∀(k i n:Nat) (b:β),i+k=M→k≤n→Inv i b→∃ex s' t,(match step (enc i b) with|some (.nrm,s')=>loopS m step live n s'|x=>x)=some (ex,s')∧gc m outL s'=some t∧Q ex t
 | 0,i,n,b,hi,hn,hI=>by
   obtain rfl:i=M:=by omega
   obtain ⟨ex,t,h0,⟨s',h1,h2⟩,h3⟩:=hend b hI
   refine ⟨ex,s',t,?_,h2,h3⟩
   rw [h1]
   cases ex <;>first|exact absurd rfl h0|rfl
 | k+1,i,n,b,hi,hn,hI=>by
   rcases hstep i b (by omega) hI with ⟨b',⟨s1,h1,h2⟩,h3⟩|⟨ex,t,h0,⟨s',h1,h2⟩,h3⟩
   ·obtain ⟨ex,s',t,h4,h5,h6⟩:=loopS_Q hstep hend k (i+1) (n-1) b' (by omega) (by omega) h3
    refine ⟨ex,s',t,?_,h5,h6⟩
    rw [h1]
    have e:n=(n-1)+1:=by omega
    rw [e]
    dsimp only
    rw [loopS,h2]
    exact h4
   ·refine ⟨ex,s',t,?_,h2,h3⟩
    rw [h1]
    cases ex <;>first|exact absurd rfl h0|rfl
theorem loopG_Q(Inv:Nat→β→Prop)(Q:Ex→St→Prop)(b:β)(hI:Inv 0 b)(hn:M≤4294967295)(hstep:∀i b,i<M→Inv i b→(∃b',Cont m (exec P O m N lives big C) (lives r) (enc i b) (enc (i+1) b')∧Inv (i+1) b')∨(∃ex t,ex≠.nrm∧Leave m (exec P O m N lives big C) (lives (outOf r)) (enc i b) ex t∧Q ex t))(hend:∀b,Inv M b→∃ex t,ex≠.nrm∧Leave m (exec P O m N lives big C) (lives (outOf r)) (enc M b) ex t∧Q ex t):
  ∃ex t,loopG P O m N lives r C (enc 0 b)=some (ex,t)∧Q ex t:=by
 obtain ⟨ex,s',t,h1,h2,h3⟩:=loopS_Q hstep hend M 0 4294967295 b (by omega) hn hI
 refine ⟨ex,t,?_,h3⟩
 unfold loopG
 rw [h1]
 simp only [h2]
theorem loopG_R(Inv:Nat→β→Prop){out:β→St}(b:β)(hI:Inv 0 b)(hn:M≤4294967295)(hN:exN≠.nrm)(hstep:∀i b,i<M→Inv i b→∃b',Cont m (exec P O m N lives big C) (lives r) (enc i b) (enc (i+1) b')∧Inv (i+1) b')(hend:∀b,Inv M b→Leave m (exec P O m N lives big C) (lives (outOf r)) (enc M b) exN (out b)):
  ∃b',loopG P O m N lives r C (enc 0 b)=some (exN,out b')∧Inv M b':=by
 obtain ⟨ex,t,h1,b',rfl,rfl,h3⟩:=loopG_Q (m:=m) (C:=C) (P:=P) (O:=O) (N:=N) Inv (fun ex t=>∃b',ex=exN∧t=out b'∧Inv M b') b hI hn (fun i b hi hI=>.inl (hstep i b hi hI)) (fun b hI=>⟨exN,out b,hN,hend b hI,b,rfl,rfl,hI⟩)
 exact ⟨b',h1,h3⟩
end
structure RawB (r:Raw):Prop where
 n:Lim r.l1
 d:Lim r.l2
 bn:r.l1.length≤17179869184
 bd:r.l2.length≤17179869184
theorem RawB.few{r:Raw}(h:RawB r):r.few=true:=by
 unfold Raw.few
 rw [Bool.and_eq_true]
 exact ⟨Nat.ble_eq_true_of_le h.bn,Nat.ble_eq_true_of_le h.bd⟩
theorem rawB_q{q:Rat}(h:H q≤17179869184):RawB (rawQ q):=by
 have a1:(lmb q.num.natAbs).length≤H q:=Nat.le_max_left _ _
 have a2:(dlmb q.den).length≤H q:=Nat.le_trans (dlmb_len _) (Nat.le_max_right _ _)
 exact ⟨lim_lmb _,lim_dlmb _,Nat.le_trans a1 h,Nat.le_trans a2 h⟩
theorem rr_1{F:Raw→AV}{r:Raw}(h:RawB r):o1 F [.agg [.lit (.bool r.s),natA r.l1,natA r.l2]]=some (F r):=by
 have h1:decR (.agg [.lit (.bool r.s),natA r.l1,natA r.l2])=some r:=decR_av h.n h.d
 simp only [o1,h1,h.few,if_true]
theorem rr_2{F:Raw→Raw→AV}{x y:Raw}(h:RawB x)(g:RawB y):o2 F [.agg [.lit (.bool x.s),natA x.l1,natA x.l2],.agg [.lit (.bool y.s),natA y.l1,natA y.l2]]=some (F x y):=by
 have h1:decR (.agg [.lit (.bool x.s),natA x.l1,natA x.l2])=some x:=decR_av h.n h.d
 have h2:decR (.agg [.lit (.bool y.s),natA y.l1,natA y.l2])=some y:=decR_av g.n g.d
 simp only [o2,h1,h2,h.few,g.few,Bool.and_self,if_true]
theorem rr_valid{r:Raw}(h:RawB r):fValid [.agg [.lit (.bool r.s),natA r.l1,natA r.l2]]=some (.lit (.bool (decide (RatV r.s r.l1 r.l2)))):=rr_1 h
theorem rr_same{x y:Raw}(h:RawB x)(g:RawB y):fSame [.agg [.lit (.bool x.s),natA x.l1,natA x.l2],.agg [.lit (.bool y.s),natA y.l1,natA y.l2]]=some (.lit (.bool (decide (x=y)))):=by
 unfold fSame
 rw [rr_2 h g]
 have e:decide (x.s=y.s∧x.l1=y.l1∧x.l2=y.l2)=decide (x=y):=by
  apply decide_eq_decide.2
  obtain ⟨a,b,c⟩:=x
  obtain ⟨d,e,f⟩:=y
  simp
 rw [e]
theorem rr_same0{r:Raw}(h:RawB r):fSame [.agg [.lit (.bool r.s),natA r.l1,natA r.l2],.agg [.lit (.bool false),.sl 1 [],.sl 1 []]]=some (.lit (.bool (decide (r=rawQ 0)))):=by
 have h1:decR (.agg [.lit (.bool r.s),natA r.l1,natA r.l2])=some r:=decR_av h.n h.d
 have h2:decR (.agg [.lit (.bool false),.sl 1 [],.sl 1 []])=some ⟨false,[],[]⟩:=rfl
 have e:rawQ 0=⟨false,[],[]⟩:=by decide+kernel
 have h3:Raw.few ⟨false,[],[]⟩=true:=rfl
 unfold fSame
 simp only [o2,h1,h2,h.few,h3,Bool.and_self,if_true,e]
 obtain ⟨a,b,c⟩:=r
 simp
@[simp] def rawC(r:Raw):List AV:=[.lit (.bool r.s),natA r.l1,natA r.l2]
@[simp] def termRC(t:Int × Raw):List AV:=[.lit (.int .i64 t.1),.lit (.bool t.2.s),natA t.2.l1,natA t.2.l2]
abbrev FormR:=List (Int × Raw) × Raw
@[simp] def formRC(f:FormR):List AV:=[.sl 4 (f.1.map termRC),.lit (.bool f.2.s),natA f.2.l1,natA f.2.l2]
@[simp] theorem okE_rawC(l:List Raw):okEls 3 (l.map rawC)=true:=okEls_map (fun x=>by simp) l
@[simp] theorem okE_termRC(l:List (Int × Raw)):okEls 4 (l.map termRC)=true:=okEls_map (fun x=>by simp) l
@[simp] theorem okE_formRC(l:List FormR):okEls 4 (l.map formRC)=true:=okEls_map (fun x=>by simp) l
structure Treader where
 s:ByteArray
 at_:Int
 bad:Bool
@[simp] def readerC(g:Treader):List AV:=[.lit (.string g.s),.lit (.int .i64 (g.at_)),.lit (.bool g.bad)]
@[simp] def readerV(g:Treader):AV:=.agg [.lit (.string g.s),.lit (.int .i64 (g.at_)),.lit (.bool g.bad)]
@[simp] theorem okE_readerC(l:List Treader):okEls 3 (l.map readerC)=true:=okEls_map (fun x=>by simp) l
structure TLiteral where
 Unit:Int
 On:Bool
@[simp] def literalC(g:TLiteral):List AV:=[.lit (.int .i64 (g.Unit)),.lit (.bool g.On)]
@[simp] def literalV(g:TLiteral):AV:=.agg [.lit (.int .i64 (g.Unit)),.lit (.bool g.On)]
@[simp] theorem okE_literalC(l:List TLiteral):okEls 2 (l.map literalC)=true:=okEls_map (fun x=>by simp) l
structure TInt where
 Neg:Bool
 Mag:List Nat
@[simp] def intC(g:TInt):List AV:=[.lit (.bool g.Neg),natA g.Mag]
@[simp] def intV(g:TInt):AV:=.agg [.lit (.bool g.Neg),natA g.Mag]
@[simp] theorem okE_intC(l:List TInt):okEls 2 (l.map intC)=true:=okEls_map (fun x=>by simp) l
structure TClaim where
 Kind:Int
 Target:Int
 Margin:Rat
 Rows:List Form
@[simp] def claimC(g:TClaim):List AV:=[.lit (.int .i64 (g.Kind)),.lit (.int .i64 (g.Target)),.lit (.bool (rawQ g.Margin).s),natA (rawQ g.Margin).l1,natA (rawQ g.Margin).l2,.sl 4 (g.Rows.map formC)]
@[simp] def claimV(g:TClaim):AV:=.agg [.lit (.int .i64 (g.Kind)),.lit (.int .i64 (g.Target)),.lit (.bool (rawQ g.Margin).s),natA (rawQ g.Margin).l1,natA (rawQ g.Margin).l2,.sl 4 (g.Rows.map formC)]
@[simp] theorem okE_claimC(l:List TClaim):okEls 6 (l.map claimC)=true:=okEls_map (fun x=>by simp) l
structure TDecision where
 Kind:Int
 Index:Int
 At:Rat
@[simp] def decisionC(g:TDecision):List AV:=[.lit (.int .i64 (g.Kind)),.lit (.int .i64 (g.Index)),.lit (.bool (rawQ g.At).s),natA (rawQ g.At).l1,natA (rawQ g.At).l2]
@[simp] def decisionV(g:TDecision):AV:=.agg [.lit (.int .i64 (g.Kind)),.lit (.int .i64 (g.Index)),.lit (.bool (rawQ g.At).s),natA (rawQ g.At).l1,natA (rawQ g.At).l2]
@[simp] theorem okE_decisionC(l:List TDecision):okEls 5 (l.map decisionC)=true:=okEls_map (fun x=>by simp) l
structure TClaimR where
 Kind:Int
 Target:Int
 Margin:Raw
 Rows:List FormR
@[simp] def claimRC(g:TClaimR):List AV:=[.lit (.int .i64 (g.Kind)),.lit (.int .i64 (g.Target)),.lit (.bool g.Margin.s),natA g.Margin.l1,natA g.Margin.l2,.sl 4 (g.Rows.map formRC)]
@[simp] def claimRV(g:TClaimR):AV:=.agg [.lit (.int .i64 (g.Kind)),.lit (.int .i64 (g.Target)),.lit (.bool g.Margin.s),natA g.Margin.l1,natA g.Margin.l2,.sl 4 (g.Rows.map formRC)]
@[simp] theorem okE_claimRC(l:List TClaimR):okEls 6 (l.map claimRC)=true:=okEls_map (fun x=>by simp) l
structure TDecisionR where
 Kind:Int
 Index:Int
 At:Raw
@[simp] def decisionRC(g:TDecisionR):List AV:=[.lit (.int .i64 (g.Kind)),.lit (.int .i64 (g.Index)),.lit (.bool g.At.s),natA g.At.l1,natA g.At.l2]
@[simp] def decisionRV(g:TDecisionR):AV:=.agg [.lit (.int .i64 (g.Kind)),.lit (.int .i64 (g.Index)),.lit (.bool g.At.s),natA g.At.l1,natA g.At.l2]
@[simp] theorem okE_decisionRC(l:List TDecisionR):okEls 5 (l.map decisionRC)=true:=okEls_map (fun x=>by simp) l
end
end Go.Proofs.YtnegdhjdienjlaaGreatDoor
