import Derived.Test.YtnegdhjdienjlaaGreatDoorGB15
import Derived.Test.YtnegdhjdienjlaaGreatDoorGB13
import Derived.Test.YtnegdhjdienjlaaGreatDoorGB8
set_option linter.all false
set_option maxRecDepth 100000
namespace Go.Proofs.YtnegdhjdienjlaaGreatDoor
section
open Go.RowKit
def livesT:List (Nat × List (Nat × List Nat)):=[(16,[(4,[1,3]),(9,[1,3,4]),(1000004,[2]),(1000009,[1,2,3])]),(17,[(7,[1,4,18,19,20]),(1000007,[1,4])]),(19,[(7,[1,3,4]),(1000007,[1,3])]),(40,[(6,[1,2,6,7,19,20,21]),(12,[2,6,7,35,36]),(1000006,[1,2,6,7]),(1000012,[7])]),(42,[(5,[1,23,24,25]),(1000005,[4,5,6])]),(43,[(3,[1,3,4]),(1000003,[1,3])]),(47,[(4,[1,3,4,11,12,13]),(1000004,[1,3,4])]),(48,[(12,[0,1,5,39,40,41]),(22,[1,8,63,64,65]),(1000012,[0,1,5]),(1000022,[8])]),(50,[(3,[0,3]),(1000003,[3])]),(52,[(3,[1,2,7,8]),(1000003,[7])]),(55,[(2,[0,1,5]),(1000002,[4])]),(60,[(4,[5,6,14,15,16]),(1000004,[2,3,4,5])]),(63,[(4,[0,1,5]),(1000004,[4])]),(81,[(11,[0,1,2,3,9,10]),(1000011,[0,9,10])]),(82,[(10,[5,6,47,48,49]),(1000010,[2,3,5,6])]),(89,[(4,[0,1,5,6,7]),(1000004,[5,6])]),(94,[(3,[1,4,6,12,13,14]),(1000003,[4,5,6])]),(99,[(2,[1,2,8,9,10]),(1000002,[2,4])]),(100,[(13,[0,1,2,10,11,52,53]),(21,[0,2,10,11,77,78]),(1000013,[0,10,11]),(1000021,[0,10,11])]),(109,[(2,[0,3]),(1000002,[0,3])]),(110,[(9,[0,1,11,12,13]),(1000009,[11,12])]),(113,[(2,[1,2,5]),(1000002,[2,4])]),(114,[(2,[0,1,5]),(1000002,[4])]),(115,[(6,[0,1,5,6,7,8,9,10]),(12,[0,1,5,6,7,9,11]),(1000006,[0,1,5,6,7,8,9]),(1000012,[4])]),(117,[(1,[0,1]),(1000001,[0])]),(118,[(2,[0,2,4]),(1000002,[2,3])]),(119,[(1,[0,1]),(1000001,[0])]),(120,[(1,[0,1]),(1000001,[0])]),(124,[(7,[0,2,5,6,7,ph 6 0 0 0,ph 6 2 0 0,ph 6 3 0 0]),(1000007,[2,3,4])]),(126,[(4,[2,3,5]),(1000004,[4])]),(133,[(7,[0,1,5]),(1000007,[4])]),(137,[(13,[9,10,11,12,13]),(1000013,[9,10,12])]),(138,[(6,[4,12,13,14]),(1000006,[4])]),(140,[(6,[0,1,6,7]),(1000006,[0,1,6])]),(141,[(6,[0,1,5]),(1000006,[4])]),(150,[(38,[7,8,9]),(1000038,[9])]),(155,[(3,[5,6,7,8,9,ph 7 0 81 4]),(1000003,[6,7])]),(159,[(2,[0,1,7,8]),(1000002,[4])]),(162,[(5,[0,3,4]),(1000005,[4])]),(164,[(6,[3,4]),(1000006,[3])]),(165,[(4,[0,1,5,6,7]),(1000004,[5,6])]),(166,[(2,[0,1,5]),(1000002,[4])]),(167,[(6,[0,1,6,7,8]),(1000006,[6])]),(168,[(3,[0,4,5]),(8,[4,6,7,8]),(1000003,[0,4]),(1000008,[4,6])]),(172,[(1,[0,1]),(1000001,[0])]),(173,[(1,[0,1]),(1000001,[0])]),(174,[(1,[0,1]),(1000001,[0])]),(175,[(0,[0]),(1000000,[])]),(178,[(15,[0,1,5,6,7,8,9,10]),(1000015,[4])]),(187,[(2,[0,3]),(1000002,[0,3])]),(190,[(1,[0,1,4]),(1000001,[0,1,4])]),(191,[(11,[0,1,3,4,10,11,12,13,14,15,16]),(18,[0,1,3,4,10,11,12,13,17]),(1000011,[0,1,3,4,10,11,12,13]),(1000018,[0,1,3,4,10,11,12,13])]),(194,[(4,[0,1,6,7,8]),(1000004,[6,7])]),(196,[(3,[1,5,13,14,15]),(1000003,[5])]),(197,[(3,[0,1,2,7,8,15,16,17]),(17,[0,1,2,7,70,71,72]),(1000003,[0,1,2,7,8]),(1000017,[0,1,2,7])]),(198,[(4,[0,1,5,7,8]),(1000004,[7])]),(199,[(9,[0,1,6,30,31,32]),(1000009,[6])]),(200,[(2,[2,4]),(1000002,[2])]),(202,[(36,[1,8,9,10,11,12,13,99,100,101]),(1000036,[6,7,9,12,13])]),(205,[(7,[0,1,5,6,24,25,26]),(1000007,[0,5,6])]),(206,[(6,[1,5,29,30,31]),(10,[1,5,6,7,8,29,30,31,36,37,38]),(1000006,[5]),(1000010,[1,5,6,8,29,30,31])]),(216,[(1,[0,2,3]),(1000001,[])]),(219,[(10,[0,4,5,6]),(1000010,[0,4,5])]),(221,[(7,[0,1,8]),(1000007,[0,8])]),(222,[(4,[3,4,9,10,11]),(1000004,[3])]),(228,[(5,[0,1,5,6,7,8,9]),(11,[0,1,5,6,7,8,10]),(1000005,[0,1,5,6,7,8]),(1000011,[4])]),(245,[(10,[0,3,4,5]),(1000010,[2,3])]),(254,[(3,[0,4,5]),(8,[4,6,7,8]),(1000003,[0,4]),(1000008,[4,6])])]
def livesOf(f:FuncId):Nat→List Nat:=lv ((livesT.lookup f).getD [])
def modesT:List (Nat × (List Bool × Bool)):=[(101,([false,false,true],false)),(102,([true],false)),(103,([true,false],false)),(105,([true],false)),(106,([true,false],false)),(119,([false,true],false)),(143,([],true)),(144,([],true)),(145,([],true)),(146,([],true)),(161,([true],false)),(163,([true,false],false)),(169,([true,false],false)),(173,([false,true],false)),(175,([true],false)),(176,([true,false],false)),(177,([true,false,false],false)),(190,([true,false],false)),(191,([true,false,false,false,false],true)),(197,([true,false,false],false)),(208,([true,false,false],true)),(216,([true],false)),(221,([true,false,false],false)),(224,([true],false))]
noncomputable def fnOf(f:FuncId):Func:=(Tryz.prog.funcs[f]?).getD default
def keepOf(f:FuncId):Bool:=((modesT.lookup f).getD ([],false)).2
noncomputable def tab:Nat→FuncId→Option Orc
 | 0,f=>orc0 f
 | n+1,f=>match orc0 f with
   | some x=>some x
   | none=>match plainF Tryz.prog f with
     | true=>(match modesT.lookup f with
       | some (ms,k)=>some (.lin ms (fnL Tryz.prog (tab n) (livesOf f) big (fnOf f) (keepOf f)))
       | none=>some (.pure (fnP Tryz.prog (tab n) (livesOf f) big (fnOf f))))
     | false=>none
theorem plain_fn{f:FuncId}(h:plainF Tryz.prog f=true): Tryz.prog.funcs[f]?=some (fnOf f):=by
 unfold plainF at h
 unfold fnOf
 split at h
 ·rename_i fn hf;rw [hf];rfl
 ·cases h
theorem tab_ok:∀n,OrcOk Tryz.prog (tab n)
 | 0=>orc0_ok
 | n+1=>by
   have key:∀f x,tab (n+1) f=some x→(orc0 f=some x)∨(plainF Tryz.prog f=true∧((∃(ms:List Bool) (k:Bool),x=.lin ms (fnL Tryz.prog (tab n) (livesOf f) big (fnOf f) (keepOf f)))∨x=.pure (fnP Tryz.prog (tab n) (livesOf f) big (fnOf f)))):=fun f x h=>by
    unfold tab at h
    split at h
    ·rename_i y hy;cases h;exact .inl hy
    ·split at h
     ·rename_i hp
      split at h
      ·cases h;exact .inr ⟨hp,.inl ⟨_,false,rfl⟩⟩
      ·cases h;exact .inr ⟨hp,.inr rfl⟩
     ·cases h
   refine ⟨fun f g h=>?_,fun f ms g h=>?_⟩
   ·rcases key f _ h with h|⟨hp,⟨ms,k,h⟩|h⟩
    ·exact orc0_ok.pure f g h
    ·cases h
    ·cases h
     exact ⟨hp,fun args r hr=>con_of (tab_ok n) mixed (plain_fn hp) (body_some hp (plain_fn hp)) hr⟩
   ·rcases key f _ h with h|⟨hp,⟨ms,k,h⟩|h⟩
    ·exact orc0_ok.lin f ms g h
    ·cases h
     exact ⟨hp,fun bin args r outs hr=>conL_of (tab_ok n) mixed (plain_fn hp) (body_some hp (plain_fn hp)) hr⟩
    ·cases h
noncomputable def run(n:Nat)(f:FuncId)(args:List AV):Option AV:=fnP Tryz.prog (tab n) (livesOf f) big (fnOf f) args
noncomputable def runL(n:Nat)(f:FuncId)(args:List AV)(bin:List AB):Option (AV × List (Nat × AB)):=fnL Tryz.prog (tab n) (livesOf f) big (fnOf f) (keepOf f) args bin
theorem tab_pure{n:Nat}{f:FuncId}(h0:orc0 f=none)(hp:plainF Tryz.prog f=true)(hm:modesT.lookup f=none):tab (n+1) f=some (.pure (run n f)):=by
 unfold tab
 rw [h0]
 simp only [hp,hm]
 rfl
theorem tab_lin{n:Nat}{f:FuncId}{ms:List Bool}{k:Bool}(h0:orc0 f=none)(hp:plainF Tryz.prog f=true)(hm:modesT.lookup f=some (ms,k)):tab (n+1) f=some (.lin ms (runL n f)):=by
 unfold tab
 rw [h0]
 simp only [hp,hm]
 rfl
theorem tab_num{f:FuncId}{x:Orc}(h:orc0 f=some x):∀n,tab n f=some x
 | 0=>h
 | n+1=>by unfold tab;rw [h]
@[simp] theorem fn_5:fnOf 5= Tryz.f5:=by kernel_rfl
@[simp] theorem tb_5(n:Nat):tab (n+1) 5=some (.pure (run n 5)):=tab_pure (by kernel_rfl) (by kernel_rfl) (by kernel_rfl)
@[simp] theorem fn_15:fnOf 15= Tryz.f15:=by kernel_rfl
@[simp] theorem tb_15(n:Nat):tab (n+1) 15=some (.pure (run n 15)):=tab_pure (by kernel_rfl) (by kernel_rfl) (by kernel_rfl)
@[simp] theorem fn_16:fnOf 16= Tryz.f16:=by kernel_rfl
@[simp] theorem lv_16_4:livesOf 16 4=[1,3]:=by kernel_rfl
@[simp] theorem lv_16_9:livesOf 16 9=[1,3,4]:=by kernel_rfl
@[simp] theorem lv_16_1000004:livesOf 16 1000004=[2]:=by kernel_rfl
@[simp] theorem lv_16_1000009:livesOf 16 1000009=[1,2,3]:=by kernel_rfl
@[simp] theorem tb_16(n:Nat):tab (n+1) 16=some (.pure (run n 16)):=tab_pure (by kernel_rfl) (by kernel_rfl) (by kernel_rfl)
@[simp] theorem fn_17:fnOf 17= Tryz.f17:=by kernel_rfl
@[simp] theorem lv_17_7:livesOf 17 7=[1,4,18,19,20]:=by kernel_rfl
@[simp] theorem lv_17_1000007:livesOf 17 1000007=[1,4]:=by kernel_rfl
@[simp] theorem tb_17(n:Nat):tab (n+1) 17=some (.pure (run n 17)):=tab_pure (by kernel_rfl) (by kernel_rfl) (by kernel_rfl)
@[simp] theorem fn_18:fnOf 18= Tryz.f18:=by kernel_rfl
@[simp] theorem tb_18(n:Nat):tab (n+1) 18=some (.pure (run n 18)):=tab_pure (by kernel_rfl) (by kernel_rfl) (by kernel_rfl)
@[simp] theorem fn_19:fnOf 19= Tryz.f19:=by kernel_rfl
@[simp] theorem lv_19_7:livesOf 19 7=[1,3,4]:=by kernel_rfl
@[simp] theorem lv_19_1000007:livesOf 19 1000007=[1,3]:=by kernel_rfl
@[simp] theorem tb_19(n:Nat):tab (n+1) 19=some (.pure (run n 19)):=tab_pure (by kernel_rfl) (by kernel_rfl) (by kernel_rfl)
@[simp] theorem fn_20:fnOf 20= Tryz.f20:=by kernel_rfl
@[simp] theorem tb_20(n:Nat):tab (n+1) 20=some (.pure (run n 20)):=tab_pure (by kernel_rfl) (by kernel_rfl) (by kernel_rfl)
@[simp] theorem fn_21:fnOf 21= Tryz.f21:=by kernel_rfl
@[simp] theorem tb_21(n:Nat):tab (n+1) 21=some (.pure (run n 21)):=tab_pure (by kernel_rfl) (by kernel_rfl) (by kernel_rfl)
@[simp] theorem fn_22:fnOf 22= Tryz.f22:=by kernel_rfl
@[simp] theorem tb_22(n:Nat):tab (n+1) 22=some (.pure (run n 22)):=tab_pure (by kernel_rfl) (by kernel_rfl) (by kernel_rfl)
@[simp] theorem fn_30:fnOf 30= Tryz.f30:=by kernel_rfl
@[simp] theorem tb_30(n:Nat):tab (n+1) 30=some (.pure (oItoa)):=tab_num rfl _
@[simp] theorem fn_34:fnOf 34= Tryz.f34:=by kernel_rfl
@[simp] theorem tb_34(n:Nat):tab (n+1) 34=some (.pure (oSplit)):=tab_num rfl _
@[simp] theorem fn_35:fnOf 35= Tryz.f35:=by kernel_rfl
@[simp] theorem tb_35(n:Nat):tab (n+1) 35=some (.pure (oAtoi)):=tab_num rfl _
@[simp] theorem fn_40:fnOf 40= Tryz.f40:=by kernel_rfl
@[simp] theorem lv_40_6:livesOf 40 6=[1,2,6,7,19,20,21]:=by kernel_rfl
@[simp] theorem lv_40_12:livesOf 40 12=[2,6,7,35,36]:=by kernel_rfl
@[simp] theorem lv_40_1000006:livesOf 40 1000006=[1,2,6,7]:=by kernel_rfl
@[simp] theorem lv_40_1000012:livesOf 40 1000012=[7]:=by kernel_rfl
@[simp] theorem tb_40(n:Nat):tab (n+1) 40=some (.pure (run n 40)):=tab_pure (by kernel_rfl) (by kernel_rfl) (by kernel_rfl)
@[simp] theorem fn_42:fnOf 42= Tryz.f42:=by kernel_rfl
@[simp] theorem lv_42_5:livesOf 42 5=[1,23,24,25]:=by kernel_rfl
@[simp] theorem lv_42_1000005:livesOf 42 1000005=[4,5,6]:=by kernel_rfl
@[simp] theorem tb_42(n:Nat):tab (n+1) 42=some (.pure (run n 42)):=tab_pure (by kernel_rfl) (by kernel_rfl) (by kernel_rfl)
@[simp] theorem fn_43:fnOf 43= Tryz.f43:=by kernel_rfl
@[simp] theorem lv_43_3:livesOf 43 3=[1,3,4]:=by kernel_rfl
@[simp] theorem lv_43_1000003:livesOf 43 1000003=[1,3]:=by kernel_rfl
@[simp] theorem tb_43(n:Nat):tab (n+1) 43=some (.pure (run n 43)):=tab_pure (by kernel_rfl) (by kernel_rfl) (by kernel_rfl)
@[simp] theorem fn_44:fnOf 44= Tryz.f44:=by kernel_rfl
@[simp] theorem tb_44(n:Nat):tab (n+1) 44=some (.pure (run n 44)):=tab_pure (by kernel_rfl) (by kernel_rfl) (by kernel_rfl)
@[simp] theorem fn_45:fnOf 45= Tryz.f45:=by kernel_rfl
@[simp] theorem tb_45(n:Nat):tab (n+1) 45=some (.pure (run n 45)):=tab_pure (by kernel_rfl) (by kernel_rfl) (by kernel_rfl)
@[simp] theorem fn_46:fnOf 46= Tryz.f46:=by kernel_rfl
@[simp] theorem tb_46(n:Nat):tab (n+1) 46=some (.pure (oReplaceAll)):=tab_num rfl _
@[simp] theorem fn_47:fnOf 47= Tryz.f47:=by kernel_rfl
@[simp] theorem lv_47_4:livesOf 47 4=[1,3,4,11,12,13]:=by kernel_rfl
@[simp] theorem lv_47_1000004:livesOf 47 1000004=[1,3,4]:=by kernel_rfl
@[simp] theorem tb_47(n:Nat):tab (n+1) 47=some (.pure (run n 47)):=tab_pure (by kernel_rfl) (by kernel_rfl) (by kernel_rfl)
@[simp] theorem fn_48:fnOf 48= Tryz.f48:=by kernel_rfl
@[simp] theorem lv_48_12:livesOf 48 12=[0,1,5,39,40,41]:=by kernel_rfl
@[simp] theorem lv_48_22:livesOf 48 22=[1,8,63,64,65]:=by kernel_rfl
@[simp] theorem lv_48_1000012:livesOf 48 1000012=[0,1,5]:=by kernel_rfl
@[simp] theorem lv_48_1000022:livesOf 48 1000022=[8]:=by kernel_rfl
@[simp] theorem tb_48(n:Nat):tab (n+1) 48=some (.pure (oJoin)):=tab_num rfl _
@[simp] theorem fn_50:fnOf 50= Tryz.f50:=by kernel_rfl
@[simp] theorem lv_50_3:livesOf 50 3=[0,3]:=by kernel_rfl
@[simp] theorem lv_50_1000003:livesOf 50 1000003=[3]:=by kernel_rfl
@[simp] theorem tb_50(n:Nat):tab (n+1) 50=some (.pure (run n 50)):=tab_pure (by kernel_rfl) (by kernel_rfl) (by kernel_rfl)
@[simp] theorem fn_51:fnOf 51= Tryz.f51:=by kernel_rfl
@[simp] theorem tb_51(n:Nat):tab (n+1) 51=some (.pure (oU fun k=>natA (lmb k))):=tab_num rfl _
@[simp] theorem fn_52:fnOf 52= Tryz.f52:=by kernel_rfl
@[simp] theorem lv_52_3:livesOf 52 3=[1,2,7,8]:=by kernel_rfl
@[simp] theorem lv_52_1000003:livesOf 52 1000003=[7]:=by kernel_rfl
@[simp] theorem tb_52(n:Nat):tab (n+1) 52=some (.pure (oSwap)):=tab_num rfl _
@[simp] theorem fn_54:fnOf 54= Tryz.f54:=by kernel_rfl
@[simp] theorem tb_54(n:Nat):tab (n+1) 54=some (.pure (run n 54)):=tab_pure (by kernel_rfl) (by kernel_rfl) (by kernel_rfl)
@[simp] theorem fn_55:fnOf 55= Tryz.f55:=by kernel_rfl
@[simp] theorem lv_55_2:livesOf 55 2=[0,1,5]:=by kernel_rfl
@[simp] theorem lv_55_1000002:livesOf 55 1000002=[4]:=by kernel_rfl
@[simp] theorem tb_55(n:Nat):tab (n+1) 55=some (.pure (run n 55)):=tab_pure (by kernel_rfl) (by kernel_rfl) (by kernel_rfl)
@[simp] theorem fn_56:fnOf 56= Tryz.f56:=by kernel_rfl
@[simp] theorem tb_56(n:Nat):tab (n+1) 56=some (.pure (oLastIndex)):=tab_num rfl _
@[simp] theorem fn_57:fnOf 57= Tryz.f57:=by kernel_rfl
@[simp] theorem tb_57(n:Nat):tab (n+1) 57=some (.pure (oHasPrefix)):=tab_num rfl _
@[simp] theorem fn_58:fnOf 58= Tryz.f58:=by kernel_rfl
@[simp] theorem tb_58(n:Nat):tab (n+1) 58=some (.pure (oTrimLeft)):=tab_num rfl _
@[simp] theorem fn_59:fnOf 59= Tryz.f59:=by kernel_rfl
@[simp] theorem tb_59(n:Nat):tab (n+1) 59=some (.pure (run n 59)):=tab_pure (by kernel_rfl) (by kernel_rfl) (by kernel_rfl)
@[simp] theorem fn_60:fnOf 60= Tryz.f60:=by kernel_rfl
@[simp] theorem lv_60_4:livesOf 60 4=[5,6,14,15,16]:=by kernel_rfl
@[simp] theorem lv_60_1000004:livesOf 60 1000004=[2,3,4,5]:=by kernel_rfl
@[simp] theorem tb_60(n:Nat):tab (n+1) 60=some (.pure (run n 60)):=tab_pure (by kernel_rfl) (by kernel_rfl) (by kernel_rfl)
@[simp] theorem fn_61:fnOf 61= Tryz.f61:=by kernel_rfl
@[simp] theorem tb_61(n:Nat):tab (n+1) 61=some (.pure (run n 61)):=tab_pure (by kernel_rfl) (by kernel_rfl) (by kernel_rfl)
@[simp] theorem fn_62:fnOf 62= Tryz.f62:=by kernel_rfl
@[simp] theorem tb_62(n:Nat):tab (n+1) 62=some (.pure (oContains)):=tab_num rfl _
@[simp] theorem fn_63:fnOf 63= Tryz.f63:=by kernel_rfl
@[simp] theorem lv_63_4:livesOf 63 4=[0,1,5]:=by kernel_rfl
@[simp] theorem lv_63_1000004:livesOf 63 1000004=[4]:=by kernel_rfl
@[simp] theorem tb_63(n:Nat):tab (n+1) 63=some (.pure (run n 63)):=tab_pure (by kernel_rfl) (by kernel_rfl) (by kernel_rfl)
@[simp] theorem fn_78:fnOf 78= Tryz.f78:=by kernel_rfl
@[simp] theorem tb_78(n:Nat):tab (n+1) 78=some (.pure (run n 78)):=tab_pure (by kernel_rfl) (by kernel_rfl) (by kernel_rfl)
@[simp] theorem fn_81:fnOf 81= Tryz.f81:=by kernel_rfl
@[simp] theorem lv_81_11:livesOf 81 11=[0,1,2,3,9,10]:=by kernel_rfl
@[simp] theorem lv_81_1000011:livesOf 81 1000011=[0,9,10]:=by kernel_rfl
@[simp] theorem tb_81(n:Nat):tab (n+1) 81=some (.pure (run n 81)):=tab_pure (by kernel_rfl) (by kernel_rfl) (by kernel_rfl)
@[simp] theorem fn_82:fnOf 82= Tryz.f82:=by kernel_rfl
@[simp] theorem lv_82_10:livesOf 82 10=[5,6,47,48,49]:=by kernel_rfl
@[simp] theorem lv_82_1000010:livesOf 82 1000010=[2,3,5,6]:=by kernel_rfl
@[simp] theorem tb_82(n:Nat):tab (n+1) 82=some (.pure (run n 82)):=tab_pure (by kernel_rfl) (by kernel_rfl) (by kernel_rfl)
@[simp] theorem fn_83:fnOf 83= Tryz.f83:=by kernel_rfl
@[simp] theorem tb_83(n:Nat):tab (n+1) 83=some (.pure (run n 83)):=tab_pure (by kernel_rfl) (by kernel_rfl) (by kernel_rfl)
@[simp] theorem fn_89:fnOf 89= Tryz.f89:=by kernel_rfl
@[simp] theorem lv_89_4:livesOf 89 4=[0,1,5,6,7]:=by kernel_rfl
@[simp] theorem lv_89_1000004:livesOf 89 1000004=[5,6]:=by kernel_rfl
@[simp] theorem tb_89(n:Nat):tab (n+1) 89=some (.pure (oN2 fun x y=>natA (lmb (val x+val y)))):=tab_num rfl _
@[simp] theorem fn_92:fnOf 92= Tryz.f92:=by kernel_rfl
@[simp] theorem tb_92(n:Nat):tab (n+1) 92=some (.pure (run n 92)):=tab_pure (by kernel_rfl) (by kernel_rfl) (by kernel_rfl)
@[simp] theorem fn_93:fnOf 93= Tryz.f93:=by kernel_rfl
@[simp] theorem tb_93(n:Nat):tab (n+1) 93=some (.pure (run n 93)):=tab_pure (by kernel_rfl) (by kernel_rfl) (by kernel_rfl)
@[simp] theorem fn_94:fnOf 94= Tryz.f94:=by kernel_rfl
@[simp] theorem lv_94_3:livesOf 94 3=[1,4,6,12,13,14]:=by kernel_rfl
@[simp] theorem lv_94_1000003:livesOf 94 1000003=[4,5,6]:=by kernel_rfl
@[simp] theorem tb_94(n:Nat):tab (n+1) 94=some (.pure (run n 94)):=tab_pure (by kernel_rfl) (by kernel_rfl) (by kernel_rfl)
@[simp] theorem fn_95:fnOf 95= Tryz.f95:=by kernel_rfl
@[simp] theorem tb_95(n:Nat):tab (n+1) 95=some (.pure (run n 95)):=tab_pure (by kernel_rfl) (by kernel_rfl) (by kernel_rfl)
@[simp] theorem fn_96:fnOf 96= Tryz.f96:=by kernel_rfl
@[simp] theorem tb_96(n:Nat):tab (n+1) 96=some (.pure (run n 96)):=tab_pure (by kernel_rfl) (by kernel_rfl) (by kernel_rfl)
@[simp] theorem fn_97:fnOf 97= Tryz.f97:=by kernel_rfl
@[simp] theorem tb_97(n:Nat):tab (n+1) 97=some (.pure (run n 97)):=tab_pure (by kernel_rfl) (by kernel_rfl) (by kernel_rfl)
@[simp] theorem fn_98:fnOf 98= Tryz.f98:=by kernel_rfl
@[simp] theorem tb_98(n:Nat):tab (n+1) 98=some (.pure (run n 98)):=tab_pure (by kernel_rfl) (by kernel_rfl) (by kernel_rfl)
@[simp] theorem fn_99:fnOf 99= Tryz.f99:=by kernel_rfl
@[simp] theorem lv_99_2:livesOf 99 2=[1,2,8,9,10]:=by kernel_rfl
@[simp] theorem lv_99_1000002:livesOf 99 1000002=[2,4]:=by kernel_rfl
@[simp] theorem tb_99(n:Nat):tab (n+1) 99=some (.pure (run n 99)):=tab_pure (by kernel_rfl) (by kernel_rfl) (by kernel_rfl)
@[simp] theorem fn_100:fnOf 100= Tryz.f100:=by kernel_rfl
@[simp] theorem lv_100_13:livesOf 100 13=[0,1,2,10,11,52,53]:=by kernel_rfl
@[simp] theorem lv_100_21:livesOf 100 21=[0,2,10,11,77,78]:=by kernel_rfl
@[simp] theorem lv_100_1000013:livesOf 100 1000013=[0,10,11]:=by kernel_rfl
@[simp] theorem lv_100_1000021:livesOf 100 1000021=[0,10,11]:=by kernel_rfl
@[simp] theorem tb_100(n:Nat):tab (n+1) 100=some (.pure (run n 100)):=tab_pure (by kernel_rfl) (by kernel_rfl) (by kernel_rfl)
@[simp] theorem fn_101:fnOf 101= Tryz.f101:=by kernel_rfl
@[simp] theorem tb_101(n:Nat):tab (n+1) 101=some (.lin [false,false,true] (runL n 101)):=tab_lin (k:=false) (by kernel_rfl) (by kernel_rfl) (by kernel_rfl)
@[simp] theorem kp_101:keepOf 101=false:=by kernel_rfl
@[simp] theorem fn_102:fnOf 102= Tryz.f102:=by kernel_rfl
@[simp] theorem tb_102(n:Nat):tab (n+1) 102=some (.lin [true] (runL n 102)):=tab_lin (k:=false) (by kernel_rfl) (by kernel_rfl) (by kernel_rfl)
@[simp] theorem kp_102:keepOf 102=false:=by kernel_rfl
@[simp] theorem fn_103:fnOf 103= Tryz.f103:=by kernel_rfl
@[simp] theorem tb_103(n:Nat):tab (n+1) 103=some (.lin [true,false] (runL n 103)):=tab_lin (k:=false) (by kernel_rfl) (by kernel_rfl) (by kernel_rfl)
@[simp] theorem kp_103:keepOf 103=false:=by kernel_rfl
@[simp] theorem fn_104:fnOf 104= Tryz.f104:=by kernel_rfl
@[simp] theorem tb_104(n:Nat):tab (n+1) 104=some (.pure (run n 104)):=tab_pure (by kernel_rfl) (by kernel_rfl) (by kernel_rfl)
@[simp] theorem fn_105:fnOf 105= Tryz.f105:=by kernel_rfl
@[simp] theorem tb_105(n:Nat):tab (n+1) 105=some (.lin [true] (runL n 105)):=tab_lin (k:=false) (by kernel_rfl) (by kernel_rfl) (by kernel_rfl)
@[simp] theorem kp_105:keepOf 105=false:=by kernel_rfl
@[simp] theorem fn_106:fnOf 106= Tryz.f106:=by kernel_rfl
@[simp] theorem tb_106(n:Nat):tab (n+1) 106=some (.lin [true,false] (runL n 106)):=tab_lin (k:=false) (by kernel_rfl) (by kernel_rfl) (by kernel_rfl)
@[simp] theorem kp_106:keepOf 106=false:=by kernel_rfl
@[simp] theorem fn_109:fnOf 109= Tryz.f109:=by kernel_rfl
@[simp] theorem lv_109_2:livesOf 109 2=[0,3]:=by kernel_rfl
@[simp] theorem lv_109_1000002:livesOf 109 1000002=[0,3]:=by kernel_rfl
@[simp] theorem tb_109(n:Nat):tab (n+1) 109=some (.pure (oN1 (fun _=>true) fun x=>natA (lmb (val x)))):=tab_num rfl _
@[simp] theorem fn_110:fnOf 110= Tryz.f110:=by kernel_rfl
@[simp] theorem lv_110_9:livesOf 110 9=[0,1,11,12,13]:=by kernel_rfl
@[simp] theorem lv_110_1000009:livesOf 110 1000009=[11,12]:=by kernel_rfl
@[simp] theorem tb_110(n:Nat):tab (n+1) 110=some (.pure (oND fun x y=>.tup [natA (lmb (val x / val y)),natA (lmb (val x % val y)),.lit (.int .i64 0)])):=tab_num rfl _
@[simp] theorem fn_111:fnOf 111= Tryz.f111:=by kernel_rfl
@[simp] theorem tb_111(n:Nat):tab (n+1) 111=some (.pure (oN1 u64N fun x=>.tup [.lit (.int .u64 (val x:Nat)),.lit (.bool true)])):=tab_num rfl _
@[simp] theorem fn_113:fnOf 113= Tryz.f113:=by kernel_rfl
@[simp] theorem lv_113_2:livesOf 113 2=[1,2,5]:=by kernel_rfl
@[simp] theorem lv_113_1000002:livesOf 113 1000002=[2,4]:=by kernel_rfl
@[simp] theorem tb_113(n:Nat):tab (n+1) 113=some (.pure (run n 113)):=tab_pure (by kernel_rfl) (by kernel_rfl) (by kernel_rfl)
@[simp] theorem fn_114:fnOf 114= Tryz.f114:=by kernel_rfl
@[simp] theorem lv_114_2:livesOf 114 2=[0,1,5]:=by kernel_rfl
@[simp] theorem lv_114_1000002:livesOf 114 1000002=[4]:=by kernel_rfl
@[simp] theorem tb_114(n:Nat):tab (n+1) 114=some (.pure (run n 114)):=tab_pure (by kernel_rfl) (by kernel_rfl) (by kernel_rfl)
@[simp] theorem fn_115:fnOf 115= Tryz.f115:=by kernel_rfl
@[simp] theorem lv_115_6:livesOf 115 6=[0,1,5,6,7,8,9,10]:=by kernel_rfl
@[simp] theorem lv_115_12:livesOf 115 12=[0,1,5,6,7,9,11]:=by kernel_rfl
@[simp] theorem lv_115_1000006:livesOf 115 1000006=[0,1,5,6,7,8,9]:=by kernel_rfl
@[simp] theorem lv_115_1000012:livesOf 115 1000012=[4]:=by kernel_rfl
@[simp] theorem tb_115(n:Nat):tab (n+1) 115=some (.pure (run n 115)):=tab_pure (by kernel_rfl) (by kernel_rfl) (by kernel_rfl)
@[simp] theorem fn_116:fnOf 116= Tryz.f116:=by kernel_rfl
@[simp] theorem tb_116(n:Nat):tab (n+1) 116=some (.pure (run n 116)):=tab_pure (by kernel_rfl) (by kernel_rfl) (by kernel_rfl)
@[simp] theorem fn_117:fnOf 117= Tryz.f117:=by kernel_rfl
@[simp] theorem lv_117_1:livesOf 117 1=[0,1]:=by kernel_rfl
@[simp] theorem lv_117_1000001:livesOf 117 1000001=[0]:=by kernel_rfl
@[simp] theorem tb_117(n:Nat):tab (n+1) 117=some (.pure (run n 117)):=tab_pure (by kernel_rfl) (by kernel_rfl) (by kernel_rfl)
@[simp] theorem fn_118:fnOf 118= Tryz.f118:=by kernel_rfl
@[simp] theorem lv_118_2:livesOf 118 2=[0,2,4]:=by kernel_rfl
@[simp] theorem lv_118_1000002:livesOf 118 1000002=[2,3]:=by kernel_rfl
@[simp] theorem tb_118(n:Nat):tab (n+1) 118=some (.pure (run n 118)):=tab_pure (by kernel_rfl) (by kernel_rfl) (by kernel_rfl)
@[simp] theorem fn_119:fnOf 119= Tryz.f119:=by kernel_rfl
@[simp] theorem lv_119_1:livesOf 119 1=[0,1]:=by kernel_rfl
@[simp] theorem lv_119_1000001:livesOf 119 1000001=[0]:=by kernel_rfl
@[simp] theorem tb_119(n:Nat):tab (n+1) 119=some (.lin [false,true] (runL n 119)):=tab_lin (k:=false) (by kernel_rfl) (by kernel_rfl) (by kernel_rfl)
@[simp] theorem kp_119:keepOf 119=false:=by kernel_rfl
@[simp] theorem fn_120:fnOf 120= Tryz.f120:=by kernel_rfl
@[simp] theorem lv_120_1:livesOf 120 1=[0,1]:=by kernel_rfl
@[simp] theorem lv_120_1000001:livesOf 120 1000001=[0]:=by kernel_rfl
@[simp] theorem tb_120(n:Nat):tab (n+1) 120=some (.pure (run n 120)):=tab_pure (by kernel_rfl) (by kernel_rfl) (by kernel_rfl)
@[simp] theorem fn_121:fnOf 121= Tryz.f121:=by kernel_rfl
@[simp] theorem tb_121(n:Nat):tab (n+1) 121=some (.pure (oTrimPrefix)):=tab_num rfl _
@[simp] theorem fn_122:fnOf 122= Tryz.f122:=by kernel_rfl
@[simp] theorem tb_122(n:Nat):tab (n+1) 122=some (.pure (oTrim)):=tab_num rfl _
@[simp] theorem fn_123:fnOf 123= Tryz.f123:=by kernel_rfl
@[simp] theorem tb_123(n:Nat):tab (n+1) 123=some (.pure (run n 123)):=tab_pure (by kernel_rfl) (by kernel_rfl) (by kernel_rfl)
@[simp] theorem fn_124:fnOf 124= Tryz.f124:=by kernel_rfl
@[simp] theorem lv_124_7:livesOf 124 7=[0,2,5,6,7,ph 6 0 0 0,ph 6 2 0 0,ph 6 3 0 0]:=by kernel_rfl
@[simp] theorem lv_124_1000007:livesOf 124 1000007=[2,3,4]:=by kernel_rfl
@[simp] theorem tb_124(n:Nat):tab (n+1) 124=some (.pure (run n 124)):=tab_pure (by kernel_rfl) (by kernel_rfl) (by kernel_rfl)
@[simp] theorem fn_125:fnOf 125= Tryz.f125:=by kernel_rfl
@[simp] theorem tb_125(n:Nat):tab (n+1) 125=some (.pure (oIndex)):=tab_num rfl _
@[simp] theorem fn_126:fnOf 126= Tryz.f126:=by kernel_rfl
@[simp] theorem lv_126_4:livesOf 126 4=[2,3,5]:=by kernel_rfl
@[simp] theorem lv_126_1000004:livesOf 126 1000004=[4]:=by kernel_rfl
@[simp] theorem tb_126(n:Nat):tab (n+1) 126=some (.pure (run n 126)):=tab_pure (by kernel_rfl) (by kernel_rfl) (by kernel_rfl)
@[simp] theorem fn_133:fnOf 133= Tryz.f133:=by kernel_rfl
@[simp] theorem lv_133_7:livesOf 133 7=[0,1,5]:=by kernel_rfl
@[simp] theorem lv_133_1000007:livesOf 133 1000007=[4]:=by kernel_rfl
@[simp] theorem tb_133(n:Nat):tab (n+1) 133=some (.pure (run n 133)):=tab_pure (by kernel_rfl) (by kernel_rfl) (by kernel_rfl)
@[simp] theorem fn_134:fnOf 134= Tryz.f134:=by kernel_rfl
@[simp] theorem tb_134(n:Nat):tab (n+1) 134=some (.pure (run n 134)):=tab_pure (by kernel_rfl) (by kernel_rfl) (by kernel_rfl)
@[simp] theorem fn_135:fnOf 135= Tryz.f135:=by kernel_rfl
@[simp] theorem tb_135(n:Nat):tab (n+1) 135=some (.pure (oU fun k=>natA (lmb k))):=tab_num rfl _
@[simp] theorem fn_137:fnOf 137= Tryz.f137:=by kernel_rfl
@[simp] theorem lv_137_13:livesOf 137 13=[9,10,11,12,13]:=by kernel_rfl
@[simp] theorem lv_137_1000013:livesOf 137 1000013=[9,10,12]:=by kernel_rfl
@[simp] theorem tb_137(n:Nat):tab (n+1) 137=some (.pure (oND fun x y=>.tup [natA (lmb (val x / val y)),natA (lmb (val x % val y)),.lit (.int .i64 0)])):=tab_num rfl _
@[simp] theorem fn_138:fnOf 138= Tryz.f138:=by kernel_rfl
@[simp] theorem lv_138_6:livesOf 138 6=[4,12,13,14]:=by kernel_rfl
@[simp] theorem lv_138_1000006:livesOf 138 1000006=[4]:=by kernel_rfl
@[simp] theorem tb_138(n:Nat):tab (n+1) 138=some (.pure (oN1 u64N fun x=>.tup [.lit (.int .u64 (val x:Nat)),.lit (.bool true)])):=tab_num rfl _
@[simp] theorem fn_140:fnOf 140= Tryz.f140:=by kernel_rfl
@[simp] theorem lv_140_6:livesOf 140 6=[0,1,6,7]:=by kernel_rfl
@[simp] theorem lv_140_1000006:livesOf 140 1000006=[0,1,6]:=by kernel_rfl
@[simp] theorem tb_140(n:Nat):tab (n+1) 140=some (.pure (run n 140)):=tab_pure (by kernel_rfl) (by kernel_rfl) (by kernel_rfl)
@[simp] theorem fn_141:fnOf 141= Tryz.f141:=by kernel_rfl
@[simp] theorem lv_141_6:livesOf 141 6=[0,1,5]:=by kernel_rfl
@[simp] theorem lv_141_1000006:livesOf 141 1000006=[4]:=by kernel_rfl
@[simp] theorem tb_141(n:Nat):tab (n+1) 141=some (.pure (run n 141)):=tab_pure (by kernel_rfl) (by kernel_rfl) (by kernel_rfl)
@[simp] theorem fn_142:fnOf 142= Tryz.f142:=by kernel_rfl
@[simp] theorem tb_142(n:Nat):tab (n+1) 142=some (.pure (run n 142)):=tab_pure (by kernel_rfl) (by kernel_rfl) (by kernel_rfl)
@[simp] theorem fn_143:fnOf 143= Tryz.f143:=by kernel_rfl
@[simp] theorem tb_143(n:Nat):tab (n+1) 143=some (.lin [] (runL n 143)):=tab_lin (k:=true) (by kernel_rfl) (by kernel_rfl) (by kernel_rfl)
@[simp] theorem kp_143:keepOf 143=true:=by kernel_rfl
@[simp] theorem fn_144:fnOf 144= Tryz.f144:=by kernel_rfl
@[simp] theorem tb_144(n:Nat):tab (n+1) 144=some (.lin [] (runL n 144)):=tab_lin (k:=true) (by kernel_rfl) (by kernel_rfl) (by kernel_rfl)
@[simp] theorem kp_144:keepOf 144=true:=by kernel_rfl
@[simp] theorem fn_145:fnOf 145= Tryz.f145:=by kernel_rfl
@[simp] theorem tb_145(n:Nat):tab (n+1) 145=some (.lin [] (runL n 145)):=tab_lin (k:=true) (by kernel_rfl) (by kernel_rfl) (by kernel_rfl)
@[simp] theorem kp_145:keepOf 145=true:=by kernel_rfl
@[simp] theorem fn_146:fnOf 146= Tryz.f146:=by kernel_rfl
@[simp] theorem tb_146(n:Nat):tab (n+1) 146=some (.lin [] (runL n 146)):=tab_lin (k:=true) (by kernel_rfl) (by kernel_rfl) (by kernel_rfl)
@[simp] theorem kp_146:keepOf 146=true:=by kernel_rfl
@[simp] theorem fn_150:fnOf 150= Tryz.f150:=by kernel_rfl
@[simp] theorem lv_150_38:livesOf 150 38=[7,8,9]:=by kernel_rfl
@[simp] theorem lv_150_1000038:livesOf 150 1000038=[9]:=by kernel_rfl
@[simp] theorem tb_150(n:Nat):tab (n+1) 150=some (.pure (oRepeat)):=tab_num rfl _
@[simp] theorem fn_154:fnOf 154= Tryz.f154:=by kernel_rfl
@[simp] theorem tb_154(n:Nat):tab (n+1) 154=some (.pure (run n 154)):=tab_pure (by kernel_rfl) (by kernel_rfl) (by kernel_rfl)
@[simp] theorem fn_155:fnOf 155= Tryz.f155:=by kernel_rfl
@[simp] theorem lv_155_3:livesOf 155 3=[5,6,7,8,9,ph 7 0 81 4]:=by kernel_rfl
@[simp] theorem lv_155_1000003:livesOf 155 1000003=[6,7]:=by kernel_rfl
@[simp] theorem tb_155(n:Nat):tab (n+1) 155=some (.pure (run n 155)):=tab_pure (by kernel_rfl) (by kernel_rfl) (by kernel_rfl)
@[simp] theorem fn_159:fnOf 159= Tryz.f159:=by kernel_rfl
@[simp] theorem lv_159_2:livesOf 159 2=[0,1,7,8]:=by kernel_rfl
@[simp] theorem lv_159_1000002:livesOf 159 1000002=[4]:=by kernel_rfl
@[simp] theorem tb_159(n:Nat):tab (n+1) 159=some (.pure (run n 159)):=tab_pure (by kernel_rfl) (by kernel_rfl) (by kernel_rfl)
@[simp] theorem fn_160:fnOf 160= Tryz.f160:=by kernel_rfl
@[simp] theorem tb_160(n:Nat):tab (n+1) 160=some (.pure (run n 160)):=tab_pure (by kernel_rfl) (by kernel_rfl) (by kernel_rfl)
@[simp] theorem fn_161:fnOf 161= Tryz.f161:=by kernel_rfl
@[simp] theorem tb_161(n:Nat):tab (n+1) 161=some (.lin [true] ccG):=tab_num rfl _
@[simp] theorem fn_162:fnOf 162= Tryz.f162:=by kernel_rfl
@[simp] theorem lv_162_5:livesOf 162 5=[0,3,4]:=by kernel_rfl
@[simp] theorem lv_162_1000005:livesOf 162 1000005=[4]:=by kernel_rfl
@[simp] theorem tb_162(n:Nat):tab (n+1) 162=some (.pure (run n 162)):=tab_pure (by kernel_rfl) (by kernel_rfl) (by kernel_rfl)
@[simp] theorem fn_163:fnOf 163= Tryz.f163:=by kernel_rfl
@[simp] theorem tb_163(n:Nat):tab (n+1) 163=some (.lin [true,false] (runL n 163)):=tab_lin (k:=false) (by kernel_rfl) (by kernel_rfl) (by kernel_rfl)
@[simp] theorem kp_163:keepOf 163=false:=by kernel_rfl
@[simp] theorem fn_164:fnOf 164= Tryz.f164:=by kernel_rfl
@[simp] theorem lv_164_6:livesOf 164 6=[3,4]:=by kernel_rfl
@[simp] theorem lv_164_1000006:livesOf 164 1000006=[3]:=by kernel_rfl
@[simp] theorem tb_164(n:Nat):tab (n+1) 164=some (.pure (run n 164)):=tab_pure (by kernel_rfl) (by kernel_rfl) (by kernel_rfl)
@[simp] theorem fn_165:fnOf 165= Tryz.f165:=by kernel_rfl
@[simp] theorem lv_165_4:livesOf 165 4=[0,1,5,6,7]:=by kernel_rfl
@[simp] theorem lv_165_1000004:livesOf 165 1000004=[5,6]:=by kernel_rfl
@[simp] theorem tb_165(n:Nat):tab (n+1) 165=some (.pure (run n 165)):=tab_pure (by kernel_rfl) (by kernel_rfl) (by kernel_rfl)
@[simp] theorem fn_166:fnOf 166= Tryz.f166:=by kernel_rfl
@[simp] theorem lv_166_2:livesOf 166 2=[0,1,5]:=by kernel_rfl
@[simp] theorem lv_166_1000002:livesOf 166 1000002=[4]:=by kernel_rfl
@[simp] theorem tb_166(n:Nat):tab (n+1) 166=some (.pure (run n 166)):=tab_pure (by kernel_rfl) (by kernel_rfl) (by kernel_rfl)
@[simp] theorem fn_167:fnOf 167= Tryz.f167:=by kernel_rfl
@[simp] theorem lv_167_6:livesOf 167 6=[0,1,6,7,8]:=by kernel_rfl
@[simp] theorem lv_167_1000006:livesOf 167 1000006=[6]:=by kernel_rfl
@[simp] theorem tb_167(n:Nat):tab (n+1) 167=some (.pure (run n 167)):=tab_pure (by kernel_rfl) (by kernel_rfl) (by kernel_rfl)
@[simp] theorem fn_168:fnOf 168= Tryz.f168:=by kernel_rfl
@[simp] theorem lv_168_3:livesOf 168 3=[0,4,5]:=by kernel_rfl
@[simp] theorem lv_168_8:livesOf 168 8=[4,6,7,8]:=by kernel_rfl
@[simp] theorem lv_168_1000003:livesOf 168 1000003=[0,4]:=by kernel_rfl
@[simp] theorem lv_168_1000008:livesOf 168 1000008=[4,6]:=by kernel_rfl
@[simp] theorem tb_168(n:Nat):tab (n+1) 168=some (.pure (run n 168)):=tab_pure (by kernel_rfl) (by kernel_rfl) (by kernel_rfl)
@[simp] theorem fn_169:fnOf 169= Tryz.f169:=by kernel_rfl
@[simp] theorem tb_169(n:Nat):tab (n+1) 169=some (.lin [true,false] (runL n 169)):=tab_lin (k:=false) (by kernel_rfl) (by kernel_rfl) (by kernel_rfl)
@[simp] theorem kp_169:keepOf 169=false:=by kernel_rfl
@[simp] theorem fn_170:fnOf 170= Tryz.f170:=by kernel_rfl
@[simp] theorem tb_170(n:Nat):tab (n+1) 170=some (.pure (run n 170)):=tab_pure (by kernel_rfl) (by kernel_rfl) (by kernel_rfl)
@[simp] theorem fn_171:fnOf 171= Tryz.f171:=by kernel_rfl
@[simp] theorem tb_171(n:Nat):tab (n+1) 171=some (.pure (run n 171)):=tab_pure (by kernel_rfl) (by kernel_rfl) (by kernel_rfl)
@[simp] theorem fn_172:fnOf 172= Tryz.f172:=by kernel_rfl
@[simp] theorem lv_172_1:livesOf 172 1=[0,1]:=by kernel_rfl
@[simp] theorem lv_172_1000001:livesOf 172 1000001=[0]:=by kernel_rfl
@[simp] theorem tb_172(n:Nat):tab (n+1) 172=some (.pure (run n 172)):=tab_pure (by kernel_rfl) (by kernel_rfl) (by kernel_rfl)
@[simp] theorem fn_173:fnOf 173= Tryz.f173:=by kernel_rfl
@[simp] theorem lv_173_1:livesOf 173 1=[0,1]:=by kernel_rfl
@[simp] theorem lv_173_1000001:livesOf 173 1000001=[0]:=by kernel_rfl
@[simp] theorem tb_173(n:Nat):tab (n+1) 173=some (.lin [false,true] (runL n 173)):=tab_lin (k:=false) (by kernel_rfl) (by kernel_rfl) (by kernel_rfl)
@[simp] theorem kp_173:keepOf 173=false:=by kernel_rfl
@[simp] theorem fn_174:fnOf 174= Tryz.f174:=by kernel_rfl
@[simp] theorem lv_174_1:livesOf 174 1=[0,1]:=by kernel_rfl
@[simp] theorem lv_174_1000001:livesOf 174 1000001=[0]:=by kernel_rfl
@[simp] theorem tb_174(n:Nat):tab (n+1) 174=some (.pure (run n 174)):=tab_pure (by kernel_rfl) (by kernel_rfl) (by kernel_rfl)
@[simp] theorem fn_175:fnOf 175= Tryz.f175:=by kernel_rfl
@[simp] theorem lv_175_0:livesOf 175 0=[0]:=by kernel_rfl
@[simp] theorem lv_175_1000000:livesOf 175 1000000=[]:=by kernel_rfl
@[simp] theorem tb_175(n:Nat):tab (n+1) 175=some (.lin [true] (runL n 175)):=tab_lin (k:=false) (by kernel_rfl) (by kernel_rfl) (by kernel_rfl)
@[simp] theorem kp_175:keepOf 175=false:=by kernel_rfl
@[simp] theorem fn_176:fnOf 176= Tryz.f176:=by kernel_rfl
@[simp] theorem tb_176(n:Nat):tab (n+1) 176=some (.lin [true,false] (runL n 176)):=tab_lin (k:=false) (by kernel_rfl) (by kernel_rfl) (by kernel_rfl)
@[simp] theorem kp_176:keepOf 176=false:=by kernel_rfl
@[simp] theorem fn_177:fnOf 177= Tryz.f177:=by kernel_rfl
@[simp] theorem tb_177(n:Nat):tab (n+1) 177=some (.lin [true,false,false] (runL n 177)):=tab_lin (k:=false) (by kernel_rfl) (by kernel_rfl) (by kernel_rfl)
@[simp] theorem kp_177:keepOf 177=false:=by kernel_rfl
@[simp] theorem fn_178:fnOf 178= Tryz.f178:=by kernel_rfl
@[simp] theorem lv_178_15:livesOf 178 15=[0,1,5,6,7,8,9,10]:=by kernel_rfl
@[simp] theorem lv_178_1000015:livesOf 178 1000015=[4]:=by kernel_rfl
@[simp] theorem tb_178(n:Nat):tab (n+1) 178=some (.pure (run n 178)):=tab_pure (by kernel_rfl) (by kernel_rfl) (by kernel_rfl)
@[simp] theorem fn_187:fnOf 187= Tryz.f187:=by kernel_rfl
@[simp] theorem lv_187_2:livesOf 187 2=[0,3]:=by kernel_rfl
@[simp] theorem lv_187_1000002:livesOf 187 1000002=[0,3]:=by kernel_rfl
@[simp] theorem tb_187(n:Nat):tab (n+1) 187=some (.pure (run n 187)):=tab_pure (by kernel_rfl) (by kernel_rfl) (by kernel_rfl)
@[simp] theorem fn_188:fnOf 188= Tryz.f188:=by kernel_rfl
@[simp] theorem tb_188(n:Nat):tab (n+1) 188=some (.pure (run n 188)):=tab_pure (by kernel_rfl) (by kernel_rfl) (by kernel_rfl)
@[simp] theorem fn_189:fnOf 189= Tryz.f189:=by kernel_rfl
@[simp] theorem tb_189(n:Nat):tab (n+1) 189=some (.pure (run n 189)):=tab_pure (by kernel_rfl) (by kernel_rfl) (by kernel_rfl)
@[simp] theorem fn_190:fnOf 190= Tryz.f190:=by kernel_rfl
@[simp] theorem lv_190_1:livesOf 190 1=[0,1,4]:=by kernel_rfl
@[simp] theorem lv_190_1000001:livesOf 190 1000001=[0,1,4]:=by kernel_rfl
@[simp] theorem tb_190(n:Nat):tab (n+1) 190=some (.lin [true,false] (runL n 190)):=tab_lin (k:=false) (by kernel_rfl) (by kernel_rfl) (by kernel_rfl)
@[simp] theorem kp_190:keepOf 190=false:=by kernel_rfl
@[simp] theorem fn_191:fnOf 191= Tryz.f191:=by kernel_rfl
@[simp] theorem lv_191_11:livesOf 191 11=[0,1,3,4,10,11,12,13,14,15,16]:=by kernel_rfl
@[simp] theorem lv_191_18:livesOf 191 18=[0,1,3,4,10,11,12,13,17]:=by kernel_rfl
@[simp] theorem lv_191_1000011:livesOf 191 1000011=[0,1,3,4,10,11,12,13]:=by kernel_rfl
@[simp] theorem lv_191_1000018:livesOf 191 1000018=[0,1,3,4,10,11,12,13]:=by kernel_rfl
@[simp] theorem tb_191(n:Nat):tab (n+1) 191=some (.lin [true,false,false,false,false] (runL n 191)):=tab_lin (k:=true) (by kernel_rfl) (by kernel_rfl) (by kernel_rfl)
@[simp] theorem kp_191:keepOf 191=true:=by kernel_rfl
@[simp] theorem fn_192:fnOf 192= Tryz.f192:=by kernel_rfl
@[simp] theorem tb_192(n:Nat):tab (n+1) 192=some (.pure (run n 192)):=tab_pure (by kernel_rfl) (by kernel_rfl) (by kernel_rfl)
@[simp] theorem fn_193:fnOf 193= Tryz.f193:=by kernel_rfl
@[simp] theorem tb_193(n:Nat):tab (n+1) 193=some (.pure (oN1 (fun _=>true) fun x=>natA (lmb (val x)))):=tab_num rfl _
@[simp] theorem fn_194:fnOf 194= Tryz.f194:=by kernel_rfl
@[simp] theorem lv_194_4:livesOf 194 4=[0,1,6,7,8]:=by kernel_rfl
@[simp] theorem lv_194_1000004:livesOf 194 1000004=[6,7]:=by kernel_rfl
@[simp] theorem tb_194(n:Nat):tab (n+1) 194=some (.pure (run n 194)):=tab_pure (by kernel_rfl) (by kernel_rfl) (by kernel_rfl)
@[simp] theorem fn_195:fnOf 195= Tryz.f195:=by kernel_rfl
@[simp] theorem tb_195(n:Nat):tab (n+1) 195=some (.pure (run n 195)):=tab_pure (by kernel_rfl) (by kernel_rfl) (by kernel_rfl)
@[simp] theorem fn_196:fnOf 196= Tryz.f196:=by kernel_rfl
@[simp] theorem lv_196_3:livesOf 196 3=[1,5,13,14,15]:=by kernel_rfl
@[simp] theorem lv_196_1000003:livesOf 196 1000003=[5]:=by kernel_rfl
@[simp] theorem tb_196(n:Nat):tab (n+1) 196=some (.pure (run n 196)):=tab_pure (by kernel_rfl) (by kernel_rfl) (by kernel_rfl)
@[simp] theorem fn_197:fnOf 197= Tryz.f197:=by kernel_rfl
@[simp] theorem lv_197_3:livesOf 197 3=[0,1,2,7,8,15,16,17]:=by kernel_rfl
@[simp] theorem lv_197_17:livesOf 197 17=[0,1,2,7,70,71,72]:=by kernel_rfl
@[simp] theorem lv_197_1000003:livesOf 197 1000003=[0,1,2,7,8]:=by kernel_rfl
@[simp] theorem lv_197_1000017:livesOf 197 1000017=[0,1,2,7]:=by kernel_rfl
@[simp] theorem tb_197(n:Nat):tab (n+1) 197=some (.lin [true,false,false] (runL n 197)):=tab_lin (k:=false) (by kernel_rfl) (by kernel_rfl) (by kernel_rfl)
@[simp] theorem kp_197:keepOf 197=false:=by kernel_rfl
@[simp] theorem fn_198:fnOf 198= Tryz.f198:=by kernel_rfl
@[simp] theorem lv_198_4:livesOf 198 4=[0,1,5,7,8]:=by kernel_rfl
@[simp] theorem lv_198_1000004:livesOf 198 1000004=[7]:=by kernel_rfl
@[simp] theorem tb_198(n:Nat):tab (n+1) 198=some (.pure (run n 198)):=tab_pure (by kernel_rfl) (by kernel_rfl) (by kernel_rfl)
@[simp] theorem fn_199:fnOf 199= Tryz.f199:=by kernel_rfl
@[simp] theorem lv_199_9:livesOf 199 9=[0,1,6,30,31,32]:=by kernel_rfl
@[simp] theorem lv_199_1000009:livesOf 199 1000009=[6]:=by kernel_rfl
@[simp] theorem tb_199(n:Nat):tab (n+1) 199=some (.pure (run n 199)):=tab_pure (by kernel_rfl) (by kernel_rfl) (by kernel_rfl)
@[simp] theorem fn_200:fnOf 200= Tryz.f200:=by kernel_rfl
@[simp] theorem lv_200_2:livesOf 200 2=[2,4]:=by kernel_rfl
@[simp] theorem lv_200_1000002:livesOf 200 1000002=[2]:=by kernel_rfl
@[simp] theorem tb_200(n:Nat):tab (n+1) 200=some (.pure (run n 200)):=tab_pure (by kernel_rfl) (by kernel_rfl) (by kernel_rfl)
@[simp] theorem fn_202:fnOf 202= Tryz.f202:=by kernel_rfl
@[simp] theorem lv_202_36:livesOf 202 36=[1,8,9,10,11,12,13,99,100,101]:=by kernel_rfl
@[simp] theorem lv_202_1000036:livesOf 202 1000036=[6,7,9,12,13]:=by kernel_rfl
@[simp] theorem tb_202(n:Nat):tab (n+1) 202=some (.pure (run n 202)):=tab_pure (by kernel_rfl) (by kernel_rfl) (by kernel_rfl)
@[simp] theorem fn_203:fnOf 203= Tryz.f203:=by kernel_rfl
@[simp] theorem tb_203(n:Nat):tab (n+1) 203=some (.pure (run n 203)):=tab_pure (by kernel_rfl) (by kernel_rfl) (by kernel_rfl)
@[simp] theorem fn_204:fnOf 204= Tryz.f204:=by kernel_rfl
@[simp] theorem tb_204(n:Nat):tab (n+1) 204=some (.pure (run n 204)):=tab_pure (by kernel_rfl) (by kernel_rfl) (by kernel_rfl)
@[simp] theorem fn_205:fnOf 205= Tryz.f205:=by kernel_rfl
@[simp] theorem lv_205_7:livesOf 205 7=[0,1,5,6,24,25,26]:=by kernel_rfl
@[simp] theorem lv_205_1000007:livesOf 205 1000007=[0,5,6]:=by kernel_rfl
@[simp] theorem tb_205(n:Nat):tab (n+1) 205=some (.pure (oN2 fun x y=>natA (lmb (val x+val y)))):=tab_num rfl _
@[simp] theorem fn_206:fnOf 206= Tryz.f206:=by kernel_rfl
@[simp] theorem lv_206_6:livesOf 206 6=[1,5,29,30,31]:=by kernel_rfl
@[simp] theorem lv_206_10:livesOf 206 10=[1,5,6,7,8,29,30,31,36,37,38]:=by kernel_rfl
@[simp] theorem lv_206_1000006:livesOf 206 1000006=[5]:=by kernel_rfl
@[simp] theorem lv_206_1000010:livesOf 206 1000010=[1,5,6,8,29,30,31]:=by kernel_rfl
@[simp] theorem tb_206(n:Nat):tab (n+1) 206=some (.pure (oN2 fun x y=>natA (lmb (val x*val y)))):=tab_num rfl _
@[simp] theorem fn_207:fnOf 207= Tryz.f207:=by kernel_rfl
@[simp] theorem tb_207(n:Nat):tab (n+1) 207=some (.pure (run n 207)):=tab_pure (by kernel_rfl) (by kernel_rfl) (by kernel_rfl)
@[simp] theorem fn_208:fnOf 208= Tryz.f208:=by kernel_rfl
@[simp] theorem tb_208(n:Nat):tab (n+1) 208=some (.lin [true,false,false] (runL n 208)):=tab_lin (k:=true) (by kernel_rfl) (by kernel_rfl) (by kernel_rfl)
@[simp] theorem kp_208:keepOf 208=true:=by kernel_rfl
@[simp] theorem fn_213:fnOf 213= Tryz.f213:=by kernel_rfl
@[simp] theorem tb_213(n:Nat):tab (n+1) 213=some (.pure (run n 213)):=tab_pure (by kernel_rfl) (by kernel_rfl) (by kernel_rfl)
@[simp] theorem fn_215:fnOf 215= Tryz.f215:=by kernel_rfl
@[simp] theorem tb_215(n:Nat):tab (n+1) 215=some (.pure (oFU)):=tab_num rfl _
@[simp] theorem fn_216:fnOf 216= Tryz.f216:=by kernel_rfl
@[simp] theorem lv_216_1:livesOf 216 1=[0,2,3]:=by kernel_rfl
@[simp] theorem lv_216_1000001:livesOf 216 1000001=[]:=by kernel_rfl
@[simp] theorem tb_216(n:Nat):tab (n+1) 216=some (.lin [true] (runL n 216)):=tab_lin (k:=false) (by kernel_rfl) (by kernel_rfl) (by kernel_rfl)
@[simp] theorem kp_216:keepOf 216=false:=by kernel_rfl
@[simp] theorem fn_218:fnOf 218= Tryz.f218:=by kernel_rfl
@[simp] theorem tb_218(n:Nat):tab (n+1) 218=some (.pure (run n 218)):=tab_pure (by kernel_rfl) (by kernel_rfl) (by kernel_rfl)
@[simp] theorem fn_219:fnOf 219= Tryz.f219:=by kernel_rfl
@[simp] theorem lv_219_10:livesOf 219 10=[0,4,5,6]:=by kernel_rfl
@[simp] theorem lv_219_1000010:livesOf 219 1000010=[0,4,5]:=by kernel_rfl
@[simp] theorem tb_219(n:Nat):tab (n+1) 219=some (.pure (run n 219)):=tab_pure (by kernel_rfl) (by kernel_rfl) (by kernel_rfl)
@[simp] theorem fn_220:fnOf 220= Tryz.f220:=by kernel_rfl
@[simp] theorem tb_220(n:Nat):tab (n+1) 220=some (.pure (oIB)):=tab_num rfl _
@[simp] theorem fn_221:fnOf 221= Tryz.f221:=by kernel_rfl
@[simp] theorem lv_221_7:livesOf 221 7=[0,1,8]:=by kernel_rfl
@[simp] theorem lv_221_1000007:livesOf 221 1000007=[0,8]:=by kernel_rfl
@[simp] theorem tb_221(n:Nat):tab (n+1) 221=some (.lin [true,false,false] (runL n 221)):=tab_lin (k:=false) (by kernel_rfl) (by kernel_rfl) (by kernel_rfl)
@[simp] theorem kp_221:keepOf 221=false:=by kernel_rfl
@[simp] theorem fn_222:fnOf 222= Tryz.f222:=by kernel_rfl
@[simp] theorem lv_222_4:livesOf 222 4=[3,4,9,10,11]:=by kernel_rfl
@[simp] theorem lv_222_1000004:livesOf 222 1000004=[3]:=by kernel_rfl
@[simp] theorem tb_222(n:Nat):tab (n+1) 222=some (.pure (run n 222)):=tab_pure (by kernel_rfl) (by kernel_rfl) (by kernel_rfl)
@[simp] theorem fn_223:fnOf 223= Tryz.f223:=by kernel_rfl
@[simp] theorem tb_223(n:Nat):tab (n+1) 223=some (.pure (run n 223)):=tab_pure (by kernel_rfl) (by kernel_rfl) (by kernel_rfl)
@[simp] theorem fn_224:fnOf 224= Tryz.f224:=by kernel_rfl
@[simp] theorem tb_224(n:Nat):tab (n+1) 224=some (.lin [true] (runL n 224)):=tab_lin (k:=false) (by kernel_rfl) (by kernel_rfl) (by kernel_rfl)
@[simp] theorem kp_224:keepOf 224=false:=by kernel_rfl
@[simp] theorem fn_225:fnOf 225= Tryz.f225:=by kernel_rfl
@[simp] theorem tb_225(n:Nat):tab (n+1) 225=some (.pure (run n 225)):=tab_pure (by kernel_rfl) (by kernel_rfl) (by kernel_rfl)
@[simp] theorem fn_227:fnOf 227= Tryz.f227:=by kernel_rfl
@[simp] theorem tb_227(n:Nat):tab (n+1) 227=some (.pure (run n 227)):=tab_pure (by kernel_rfl) (by kernel_rfl) (by kernel_rfl)
@[simp] theorem fn_228:fnOf 228= Tryz.f228:=by kernel_rfl
@[simp] theorem lv_228_5:livesOf 228 5=[0,1,5,6,7,8,9]:=by kernel_rfl
@[simp] theorem lv_228_11:livesOf 228 11=[0,1,5,6,7,8,10]:=by kernel_rfl
@[simp] theorem lv_228_1000005:livesOf 228 1000005=[0,1,5,6,7,8]:=by kernel_rfl
@[simp] theorem lv_228_1000011:livesOf 228 1000011=[4]:=by kernel_rfl
@[simp] theorem tb_228(n:Nat):tab (n+1) 228=some (.pure (run n 228)):=tab_pure (by kernel_rfl) (by kernel_rfl) (by kernel_rfl)
@[simp] theorem fn_238:fnOf 238= Tryz.f238:=by kernel_rfl
@[simp] theorem tb_238(n:Nat):tab (n+1) 238=some (.pure (run n 238)):=tab_pure (by kernel_rfl) (by kernel_rfl) (by kernel_rfl)
@[simp] theorem fn_239:fnOf 239= Tryz.f239:=by kernel_rfl
@[simp] theorem tb_239(n:Nat):tab (n+1) 239=some (.pure (run n 239)):=tab_pure (by kernel_rfl) (by kernel_rfl) (by kernel_rfl)
@[simp] theorem fn_240:fnOf 240= Tryz.f240:=by kernel_rfl
@[simp] theorem tb_240(n:Nat):tab (n+1) 240=some (.pure (run n 240)):=tab_pure (by kernel_rfl) (by kernel_rfl) (by kernel_rfl)
@[simp] theorem fn_241:fnOf 241= Tryz.f241:=by kernel_rfl
@[simp] theorem tb_241(n:Nat):tab (n+1) 241=some (.pure (run n 241)):=tab_pure (by kernel_rfl) (by kernel_rfl) (by kernel_rfl)
@[simp] theorem fn_242:fnOf 242= Tryz.f242:=by kernel_rfl
@[simp] theorem tb_242(n:Nat):tab (n+1) 242=some (.pure (run n 242)):=tab_pure (by kernel_rfl) (by kernel_rfl) (by kernel_rfl)
@[simp] theorem fn_243:fnOf 243= Tryz.f243:=by kernel_rfl
@[simp] theorem tb_243(n:Nat):tab (n+1) 243=some (.pure (run n 243)):=tab_pure (by kernel_rfl) (by kernel_rfl) (by kernel_rfl)
@[simp] theorem fn_244:fnOf 244= Tryz.f244:=by kernel_rfl
@[simp] theorem tb_244(n:Nat):tab (n+1) 244=some (.pure (run n 244)):=tab_pure (by kernel_rfl) (by kernel_rfl) (by kernel_rfl)
@[simp] theorem fn_245:fnOf 245= Tryz.f245:=by kernel_rfl
@[simp] theorem lv_245_10:livesOf 245 10=[0,3,4,5]:=by kernel_rfl
@[simp] theorem lv_245_1000010:livesOf 245 1000010=[2,3]:=by kernel_rfl
@[simp] theorem tb_245(n:Nat):tab (n+1) 245=some (.pure (run n 245)):=tab_pure (by kernel_rfl) (by kernel_rfl) (by kernel_rfl)
@[simp] theorem fn_246:fnOf 246= Tryz.f246:=by kernel_rfl
@[simp] theorem tb_246(n:Nat):tab (n+1) 246=some (.pure (run n 246)):=tab_pure (by kernel_rfl) (by kernel_rfl) (by kernel_rfl)
@[simp] theorem fn_247:fnOf 247= Tryz.f247:=by kernel_rfl
@[simp] theorem tb_247(n:Nat):tab (n+1) 247=some (.pure (run n 247)):=tab_pure (by kernel_rfl) (by kernel_rfl) (by kernel_rfl)
@[simp] theorem fn_250:fnOf 250= Tryz.f250:=by kernel_rfl
@[simp] theorem tb_250(n:Nat):tab (n+1) 250=some (.pure (run n 250)):=tab_pure (by kernel_rfl) (by kernel_rfl) (by kernel_rfl)
@[simp] theorem fn_251:fnOf 251= Tryz.f251:=by kernel_rfl
@[simp] theorem tb_251(n:Nat):tab (n+1) 251=some (.pure (run n 251)):=tab_pure (by kernel_rfl) (by kernel_rfl) (by kernel_rfl)
@[simp] theorem fn_252:fnOf 252= Tryz.f252:=by kernel_rfl
@[simp] theorem tb_252(n:Nat):tab (n+1) 252=some (.pure (run n 252)):=tab_pure (by kernel_rfl) (by kernel_rfl) (by kernel_rfl)
@[simp] theorem fn_254:fnOf 254= Tryz.f254:=by kernel_rfl
@[simp] theorem lv_254_3:livesOf 254 3=[0,4,5]:=by kernel_rfl
@[simp] theorem lv_254_8:livesOf 254 8=[4,6,7,8]:=by kernel_rfl
@[simp] theorem lv_254_1000003:livesOf 254 1000003=[0,4]:=by kernel_rfl
@[simp] theorem lv_254_1000008:livesOf 254 1000008=[4,6]:=by kernel_rfl
@[simp] theorem tb_254(n:Nat):tab (n+1) 254=some (.pure (run n 254)):=tab_pure (by kernel_rfl) (by kernel_rfl) (by kernel_rfl)
@[simp] theorem fn_256:fnOf 256= Tryz.f256:=by kernel_rfl
@[simp] theorem tb_256(n:Nat):tab (n+1) 256=some (.pure (run n 256)):=tab_pure (by kernel_rfl) (by kernel_rfl) (by kernel_rfl)
@[simp] theorem fn_257:fnOf 257= Tryz.f257:=by kernel_rfl
@[simp] theorem tb_257(n:Nat):tab (n+1) 257=some (.pure (run n 257)):=tab_pure (by kernel_rfl) (by kernel_rfl) (by kernel_rfl)
end
section
open Go.RowKit
def ratC(q:Rat):List AV:=[.lit (.bool (rawQ q).s),natA (rawQ q).l1,natA (rawQ q).l2]
def termC(t:Int × Rat):List AV:=[.lit (.int .i64 t.1),.lit (.bool (rawQ t.2).s),natA (rawQ t.2).l1,natA (rawQ t.2).l2]
abbrev Form:=List (Int × Rat) × Rat
def formC(f:Form):List AV:=[.sl 4 (f.1.map termC),.lit (.bool (rawQ f.2).s),natA (rawQ f.2).l1,natA (rawQ f.2).l2]
theorem roomy_s{n b:Nat}(h:n≤100000000)(hb:b≤10000):roomy n b=true:=by
 unfold roomy
 have:n*b≤100000000*10000:=Nat.mul_le_mul h hb
 rw [Bool.and_eq_true]
 exact ⟨decide_eq_true (by omega),decide_eq_true (by omega)⟩
theorem o1_rat{F:Raw→AV}{q:Rat}(h:H q≤17179869184):o1 F [ratA q]=some (F (rawQ q)):=by
 have h1:(rawQ q).few=true:=by
  have a1:(lmb q.num.natAbs).length≤H q:=Nat.le_max_left _ _
  have a2:(dlmb q.den).length≤H q:=Nat.le_trans (dlmb_len _) (Nat.le_max_right _ _)
  unfold Raw.few rawQ
  rw [Bool.and_eq_true]
  exact ⟨Nat.ble_eq_true_of_le (by dsimp only;omega),Nat.ble_eq_true_of_le (by dsimp only;omega)⟩
 simp only [o1,decR_rat,h1,if_true]
theorem o2_rat{F:Raw→Raw→AV}{p q:Rat}(hp:H p≤17179869184)(hq:H q≤17179869184):o2 F [ratA p,ratA q]=some (F (rawQ p) (rawQ q)):=by
 have few:∀{q:Rat},H q≤17179869184→(rawQ q).few=true:=fun {q} h=>by
  have a1:(lmb q.num.natAbs).length≤H q:=Nat.le_max_left _ _
  have a2:(dlmb q.den).length≤H q:=Nat.le_trans (dlmb_len _) (Nat.le_max_right _ _)
  unfold Raw.few rawQ
  rw [Bool.and_eq_true]
  exact ⟨Nat.ble_eq_true_of_le (by dsimp only;omega),Nat.ble_eq_true_of_le (by dsimp only;omega)⟩
 simp only [o2,decR_rat,few hp,few hq,Bool.and_self,if_true]
theorem o1_agg{F:Raw→AV}{q:Rat}(h:H q≤17179869184):o1 F [.agg [.lit (.bool (rawQ q).s),natA (rawQ q).l1,natA (rawQ q).l2]]=some (F (rawQ q)):=o1_rat h
theorem o2_agg{F:Raw→Raw→AV}{p q:Rat}(hp:H p≤17179869184)(hq:H q≤17179869184):o2 F [.agg [.lit (.bool (rawQ p).s),natA (rawQ p).l1,natA (rawQ p).l2],.agg [.lit (.bool (rawQ q).s),natA (rawQ q).l1,natA (rawQ q).l2]]=some (F (rawQ p) (rawQ q)):=o2_rat hp hq
noncomputable def fAdd:List AV→Option AV:=o2 fun x y=>ratA (x.q+y.q)
@[simp] theorem tn_add(n:Nat):tab n 229=some (.pure fAdd):=tab_num rfl n
@[simp] theorem tn_padd(n:Nat):tab n 157=some (.pure fAdd):=tab_num rfl n
noncomputable def fSub:List AV→Option AV:=o2 fun x y=>ratA (x.q-y.q)
noncomputable def fMul:List AV→Option AV:=o2 fun x y=>ratA (x.q*y.q)
@[simp] theorem tn_mul(n:Nat):tab n 231=some (.pure fMul):=tab_num rfl n
@[simp] theorem tn_pmul(n:Nat):tab n 158=some (.pure fMul):=tab_num rfl n
noncomputable def fNeg:List AV→Option AV:=o1 fun x=>ratA (-x.q)
noncomputable def fCanon:List AV→Option AV:=o1 fun x=>ratA x.q
@[simp] theorem tn_canon(n:Nat):tab n 86=some (.pure fCanon):=tab_num rfl n
@[simp] theorem tn_pcanon(n:Nat):tab n 132=some (.pure fCanon):=tab_num rfl n
noncomputable def fSign:List AV→Option AV:=o1 fun x=>.lit (.int .i64 (sgR x.q))
@[simp] theorem tn_sign(n:Nat):tab n 53=some (.pure fSign):=tab_num rfl n
@[simp] theorem tn_psign(n:Nat):tab n 49=some (.pure fSign):=tab_num rfl n
noncomputable def fCmp:List AV→Option AV:=o2 fun x y=>.lit (.int .i64 (sgR (x.q-y.q)))
noncomputable def fSame:List AV→Option AV:=o2 fun x y=>.lit (.bool (decide (x.s=y.s∧x.l1=y.l1∧x.l2=y.l2)))
@[simp] theorem tn_same(n:Nat):tab n 37=some (.pure fSame):=tab_num rfl n
noncomputable def fValid:List AV→Option AV:=o1 fun x=>.lit (.bool (decide (RatV x.s x.l1 x.l2)))
@[simp] theorem tn_valid(n:Nat):tab n 38=some (.pure fValid):=tab_num rfl n
@[simp] theorem tn_pvalid(n:Nat):tab n 77=some (.pure fValid):=tab_num rfl n
noncomputable def fOf:List AV→Option AV:=oZ fun z=>ratA (z:Rat)
@[simp] theorem tn_of(n:Nat):tab n 41=some (.pure fOf):=tab_num rfl n
@[simp] theorem tn_pof(n:Nat):tab n 156=some (.pure fOf):=tab_num rfl n
noncomputable def fFrac:List AV→Option AV:=oZZ fun x y=>.tup [ratA ((x:Rat) / (y:Rat)),.lit (.int .i64 0)]
@[simp] theorem tn_frac(n:Nat):tab n 24=some (.pure fFrac):=tab_num rfl n
theorem r_add{p q:Rat}(hp:H p≤17179869184)(hq:H q≤17179869184):fAdd [.agg [.lit (.bool (rawQ p).s),natA (rawQ p).l1,natA (rawQ p).l2],.agg [.lit (.bool (rawQ q).s),natA (rawQ q).l1,natA (rawQ q).l2]]=some (.agg [.lit (.bool (rawQ (p+q)).s),natA (rawQ (p+q)).l1,natA (rawQ (p+q)).l2]):=by unfold fAdd;rw [o2_agg hp hq,rawQ_q,rawQ_q];rfl
theorem r_mul{p q:Rat}(hp:H p≤17179869184)(hq:H q≤17179869184):fMul [.agg [.lit (.bool (rawQ p).s),natA (rawQ p).l1,natA (rawQ p).l2],.agg [.lit (.bool (rawQ q).s),natA (rawQ q).l1,natA (rawQ q).l2]]=some (.agg [.lit (.bool (rawQ (p*q)).s),natA (rawQ (p*q)).l1,natA (rawQ (p*q)).l2]):=by unfold fMul;rw [o2_agg hp hq,rawQ_q,rawQ_q];rfl
theorem r_canon{p:Rat}(hp:H p≤17179869184):fCanon [.agg [.lit (.bool (rawQ p).s),natA (rawQ p).l1,natA (rawQ p).l2]]=some (.agg [.lit (.bool (rawQ p).s),natA (rawQ p).l1,natA (rawQ p).l2]):=by unfold fCanon;rw [o1_agg hp,rawQ_q];rfl
theorem r_sign{p:Rat}(hp:H p≤17179869184):fSign [.agg [.lit (.bool (rawQ p).s),natA (rawQ p).l1,natA (rawQ p).l2]]=some (.lit (.int .i64 (sgR p))):=by unfold fSign;rw [o1_agg hp,rawQ_q]
theorem rawQ_inj{p q:Rat}(h:rawQ p=rawQ q):p=q:=by rw [←rawQ_q p,h,rawQ_q]
theorem r_same{p q:Rat}(hp:H p≤17179869184)(hq:H q≤17179869184):fSame [.agg [.lit (.bool (rawQ p).s),natA (rawQ p).l1,natA (rawQ p).l2],.agg [.lit (.bool (rawQ q).s),natA (rawQ q).l1,natA (rawQ q).l2]]=some (.lit (.bool (decide (p=q)))):=by
 unfold fSame
 rw [o2_agg hp hq]
 have:(decide ((rawQ p).s=(rawQ q).s∧(rawQ p).l1=(rawQ q).l1∧(rawQ p).l2=(rawQ q).l2))=decide (p=q):=by
  apply decide_eq_decide.2
  constructor
  ·intro ⟨h1,h2,h3⟩
   apply rawQ_inj
   generalize rawQ p=a at*
   generalize rawQ q=b at*
   obtain ⟨_,_,_⟩:=a
   obtain ⟨_,_,_⟩:=b
   simp_all
  ·intro h;subst h;exact ⟨rfl,rfl,rfl⟩
 rw [this]
theorem r_of{z:Int}(h1:-9223372036854775808≤z)(h2:z≤9223372036854775807):fOf [.lit (.int .i64 z)]=some (.agg [.lit (.bool (rawQ (z:Rat)).s),natA (rawQ (z:Rat)).l1,natA (rawQ (z:Rat)).l2]):=if_pos ⟨h1,h2⟩
end
section
open Go.RowKit
@[simp] theorem z0s:(rawQ 0).s=false:=rfl
@[simp] theorem z0n:natA (rawQ 0).l1=.sl 1 []:=by
  have e:(rawQ 0).l1=[]:=by decide+kernel
  rw [e];rfl
@[simp] theorem z0d:natA (rawQ 0).l2=.sl 1 []:=by
  have e:(rawQ 0).l2=[]:=by decide+kernel
  rw [e];rfl
@[simp] def ratV(q:Rat):AV:=.agg [.lit (.bool (rawQ q).s),natA (rawQ q).l1,natA (rawQ q).l2]
@[simp] def formV(f:Form):AV:=.agg [.sl 4 (f.1.map termC),.lit (.bool (rawQ f.2).s),natA (rawQ f.2).l1,natA (rawQ f.2).l2]
attribute [simp] ratC termC formC loopsOf roomy_s
def absQ(q:Rat):Rat:=if q.num<0 then -q else q
theorem neg_nm(q:Rat):(-q).num=-q.num:=rfl
theorem neg_dn(q:Rat):(-q).den=q.den:=rfl
theorem absQ_raw(q:Rat):rawQ (absQ q)=⟨false,(rawQ q).l1,(rawQ q).l2⟩:=by
 by_cases h:q.num<0
 ·have e:absQ q=-q:=if_pos h
  have e2:decide (-q.num<0)=false:=decide_eq_false (by omega)
  rw [e]
  unfold rawQ
  rw [neg_nm,neg_dn,Int.natAbs_neg,e2]
 ·have e:absQ q=q:=if_neg h
  have e2:decide (q.num<0)=false:=decide_eq_false h
  rw [e]
  unfold rawQ
  rw [e2]
@[simp] theorem absQ_s(q:Rat):(rawQ (absQ q)).s=false:=by rw [absQ_raw]
@[simp] theorem absQ_n(q:Rat):(rawQ (absQ q)).l1=(rawQ q).l1:=by rw [absQ_raw]
@[simp] theorem absQ_d(q:Rat):(rawQ (absQ q)).l2=(rawQ q).l2:=by rw [absQ_raw]
def InI(z:Int):Prop:=-9223372036854775808≤z∧z≤9223372036854775807
@[simp] def intI64C(z:Int):List AV:=[.lit (.int .i64 z)]
@[simp] def intU8C(z:Int):List AV:=[.lit (.int .u8 z)]
@[simp] def intU32C(z:Int):List AV:=[.lit (.int .u32 z)]
@[simp] def boolC(b:Bool):List AV:=[.lit (.bool b)]
@[simp] def strC(s:ByteArray):List AV:=[.lit (.string s)]
def ofQ(z:Int):Rat:=(z:Rat)
theorem r_ofq{z:Int}(h1:-9223372036854775808≤z)(h2:z≤9223372036854775807):fOf [.lit (.int .i64 z)]=some (.agg [.lit (.bool (rawQ (ofQ z)).s),natA (rawQ (ofQ z)).l1,natA (rawQ (ofQ z)).l2]):=r_of h1 h2
@[simp] theorem okE_ratC(l:List Rat):okEls 3 (l.map ratC)=true:=okEls_map (fun x=>by simp) l
@[simp] theorem okE_termC(l:List (Int × Rat)):okEls 4 (l.map termC)=true:=okEls_map (fun x=>by simp) l
@[simp] theorem okE_formC(l:List Form):okEls 4 (l.map formC)=true:=okEls_map (fun x=>by simp) l
@[simp] theorem okE_intI64C(l:List Int):okEls 1 (l.map intI64C)=true:=okEls_map (fun x=>by simp) l
@[simp] theorem okE_intU8C(l:List Int):okEls 1 (l.map intU8C)=true:=okEls_map (fun x=>by simp) l
@[simp] theorem okE_boolC(l:List Bool):okEls 1 (l.map boolC)=true:=okEls_map (fun x=>by simp) l
@[simp] theorem okE_strC(l:List ByteArray):okEls 1 (l.map strC)=true:=okEls_map (fun x=>by simp) l
section
variable {α β γ : Type} {P : Program} {O : FuncId → Option Orc} {m N : Nat} {lives : Nat → List Nat} {r : Nat} {C : Code} {M : Nat} {L : List α} {enc : Nat → β → St} {exN exE : Ex}
noncomputable def loopG(P:Program)(O:FuncId→Option Orc)(m N:Nat)(lives:Nat→List Nat)(r:Nat)(C:Code)(e:St):Option (Ex × St):=
 match (match exec P O m N lives big C e with
  | some (.nrm,s')=>loopS m (exec P O m N lives big C) (lives r) 4294967295 s'
  | x=>x) with
 | some (ex,s')=>(match gc m (lives (outOf r)) s' with|some s2=>some (ex,s2)|none=>none)
 | none=>none
theorem loopX_G{C':Code}{s e:St}(hC:C=C')(hg:gc m (lives r) s=some e):loopX P O m N lives big r C s=loopG P O m N lives r C' e:=by
 subst hC
 unfold loopX loopG
 have hb:loopS m (exec P O m N lives big C) (lives r) big s=loopS m (exec P O m N lives big C) (lives r) (4294967295+1) s:=rfl
 rw [hb,loopS,hg]
 dsimp only
 cases exec P O m N lives big C e with
 | none=>rfl
 | some p=>
   obtain ⟨ex,s1⟩:=p
   cases ex <;>rfl
theorem loopS_Q{live outL:List Nat}{step:St→Option (Ex × St)}{Inv:Nat→β→Prop}{Q:Ex→St→Prop}(hstep:∀i b,i<M→Inv i b→(∃b',Cont m step live (enc i b) (enc (i+1) b')∧Inv (i+1) b')∨(∃ex t,ex≠.nrm∧Leave m step outL (enc i b) ex t∧Q ex t))(hend:∀b,Inv M b→∃ex t,ex≠.nrm∧Leave m step outL (enc M b) ex t∧Q ex t):
  ∀(k i n:Nat) (b:β),i+k=M→k≤n→Inv i b→∃ex s' t,(match step (enc i b) with|some (.nrm,s')=>loopS m step live n s'|x=>x)=some (ex,s')∧gc m outL s'=some t∧Q ex t
 | 0,i,n,b,hi,hn,hI=>by
   obtain rfl:i=M:=by omega
   obtain ⟨ex,t,h0,⟨s',h1,h2⟩,h3⟩:=hend b hI
   refine ⟨ex,s',t,?_,h2,h3⟩
   rw [h1]
   cases ex <;>first|exact absurd rfl h0|rfl
 | k+1,i,n,b,hi,hn,hI=>by
   rcases hstep i b (by omega) hI with ⟨b',⟨s1,h1,h2⟩,h3⟩|⟨ex,t,h0,⟨s',h1,h2⟩,h3⟩
   ·obtain ⟨ex,s',t,h4,h5,h6⟩:=loopS_Q hstep hend k (i+1) (n-1) b' (by omega) (by omega) h3
    refine ⟨ex,s',t,?_,h5,h6⟩
    rw [h1]
    have e:n=(n-1)+1:=by omega
    rw [e]
    dsimp only
    rw [loopS,h2]
    exact h4
   ·refine ⟨ex,s',t,?_,h2,h3⟩
    rw [h1]
    cases ex <;>first|exact absurd rfl h0|rfl
theorem loopG_Q(Inv:Nat→β→Prop)(Q:Ex→St→Prop)(b:β)(hI:Inv 0 b)(hn:M≤4294967295)(hstep:∀i b,i<M→Inv i b→(∃b',Cont m (exec P O m N lives big C) (lives r) (enc i b) (enc (i+1) b')∧Inv (i+1) b')∨(∃ex t,ex≠.nrm∧Leave m (exec P O m N lives big C) (lives (outOf r)) (enc i b) ex t∧Q ex t))(hend:∀b,Inv M b→∃ex t,ex≠.nrm∧Leave m (exec P O m N lives big C) (lives (outOf r)) (enc M b) ex t∧Q ex t):
  ∃ex t,loopG P O m N lives r C (enc 0 b)=some (ex,t)∧Q ex t:=by
 obtain ⟨ex,s',t,h1,h2,h3⟩:=loopS_Q hstep hend M 0 4294967295 b (by omega) hn hI
 refine ⟨ex,t,?_,h3⟩
 unfold loopG
 rw [h1]
 simp only [h2]
theorem loopG_R(Inv:Nat→β→Prop){out:β→St}(b:β)(hI:Inv 0 b)(hn:M≤4294967295)(hN:exN≠.nrm)(hstep:∀i b,i<M→Inv i b→∃b',Cont m (exec P O m N lives big C) (lives r) (enc i b) (enc (i+1) b')∧Inv (i+1) b')(hend:∀b,Inv M b→Leave m (exec P O m N lives big C) (lives (outOf r)) (enc M b) exN (out b)):
  ∃b',loopG P O m N lives r C (enc 0 b)=some (exN,out b')∧Inv M b':=by
 obtain ⟨ex,t,h1,b',rfl,rfl,h3⟩:=loopG_Q (m:=m) (C:=C) (P:=P) (O:=O) (N:=N) Inv (fun ex t=>∃b',ex=exN∧t=out b'∧Inv M b') b hI hn (fun i b hi hI=>.inl (hstep i b hi hI)) (fun b hI=>⟨exN,out b,hN,hend b hI,b,rfl,rfl,hI⟩)
 exact ⟨b',h1,h3⟩
theorem loopG_E {f:Nat→β→α→Except γ β} {out:β→St} {outE:γ→St} {Inv:Nat→β→Prop} (b:β) (hI:Inv 0 b) (hn:L.length≤4294967295) (hN:exN≠.nrm) (hE:exE≠.nrm) (hstep:∀i x b,L[i]?=some x→Inv i b→match f i b x with
   | .ok b'=>Cont m (exec P O m N lives big C) (lives r) (enc i b) (enc (i+1) b')∧Inv (i+1) b'
   | .error c=>Leave m (exec P O m N lives big C) (lives (outOf r)) (enc i b) exE (outE c)) (hend:∀b,Inv L.length b→Leave m (exec P O m N lives big C) (lives (outOf r)) (enc L.length b) exN (out b)):
  loopG P O m N lives r C (enc 0 b)=some (endE (foldE f 0 b L) exN out exE outE)∧∀b',foldE f 0 b L=.ok b'→Inv L.length b':=by
 obtain ⟨ex,t,h1,h2,h3⟩:=loopG_Q (m:=m) (C:=C) (P:=P) (O:=O) (N:=N) (lives:=lives) (r:=r) (enc:=enc) (M:=L.length) (fun i b'=>Inv i b'∧foldE f i b' (L.drop i)=foldE f 0 b L)
  (fun ex t=>(ex,t)=endE (foldE f 0 b L) exN out exE outE∧∀b',foldE f 0 b L=.ok b'→Inv L.length b') b ⟨hI,rfl⟩ hn
  (fun i b' hi ⟨hI,hf⟩=>by
   have hx:L[i]?=some L[i]:=List.getElem?_eq_getElem hi
   have hd:L.drop i=L[i]::L.drop (i+1):=List.drop_eq_getElem_cons hi
   have h4:=hstep i _ b' hx hI
   rw [hd,foldE] at hf
   split at h4
   ·rename_i b2 he
    rw [he] at hf
    exact .inl ⟨b2,h4.1,h4.2,hf⟩
   ·rename_i c he
    rw [he] at hf
    exact .inr ⟨exE,outE c,hE,h4,by rw [←hf];rfl,fun b' h=>by rw [←hf] at h;cases h⟩)
  (fun b' ⟨hI,hf⟩=>by
   rw [List.drop_length,foldE] at hf
   exact ⟨exN,out b',hN,hend b' hI,by rw [←hf];rfl,fun b2 h=>by rw [←hf] at h;cases h;exact hI⟩)
 rw [h1,h2]
 exact ⟨rfl,h3⟩
theorem loopG_I{f:Nat→β→α→β}{out:β→St}{Inv:Nat→β→Prop}(b:β)(hI:Inv 0 b)(hn:L.length≤4294967295)(hN:exN≠.nrm)(hstep:∀i x b,L[i]?=some x→Inv i b→Cont m (exec P O m N lives big C) (lives r) (enc i b) (enc (i+1) (f i b x))∧Inv (i+1) (f i b x))(hend:∀b,Inv L.length b→Leave m (exec P O m N lives big C) (lives (outOf r)) (enc L.length b) exN (out b)):
  loopG P O m N lives r C (enc 0 b)=some (exN,out (foldI f 0 b L))∧Inv L.length (foldI f 0 b L):=by
 have key:∀(R:List α) (i:Nat) (b:β),foldE (γ:=Empty) (fun i b x=>.ok (f i b x)) i b R=.ok (foldI f i b R):=fun R=>by
  induction R with
  | nil=>intro i b;rfl
  | cons x R ih=>intro i b;exact ih (i+1) (f i b x)
 have h:=loopG_E (γ:=Empty) (f:=fun i b x=>.ok (f i b x)) (exE:=.ret) (outE:=fun c=>c.elim) (P:=P) (O:=O) (m:=m) (N:=N) (lives:=lives) (r:=r) (C:=C) b hI hn hN (fun h=>by cases h) hstep hend
 rw [key] at h
 exact ⟨h.1,h.2 _ rfl⟩
end
theorem loopG_all{P:Program}{O:FuncId→Option Orc}{m N:Nat}{lives:Nat→List Nat}{r:Nat}{C:Code}{M:Nat}{enc:Nat→St}{p:Nat→Bool}{exN exE:Ex}{out outE:St}(hn:M≤4294967295)(hN:exN≠.nrm)(hE:exE≠.nrm)(hstep:∀i,i<M→(∀j,j<i→p j=true)→(p i=true→Cont m (exec P O m N lives big C) (lives r) (enc i) (enc (i+1)))∧(p i=false→Leave m (exec P O m N lives big C) (lives (outOf r)) (enc i) exE outE))(hend:Leave m (exec P O m N lives big C) (lives (outOf r)) (enc M) exN out):
  loopG P O m N lives r C (enc 0)=some (if ∀i,i<M→p i=true then (exN,out) else (exE,outE)):=by
 obtain ⟨ex,t,h1,h2⟩:=loopG_Q (β:=Unit) (m:=m) (C:=C) (P:=P) (O:=O) (N:=N) (lives:=lives) (r:=r) (M:=M) (enc:=fun i _=>enc i) (fun i _=>∀j,j<i→p j=true) (fun ex t=>(ex,t)=if ∀i,i<M→p i=true then (exN,out) else (exE,outE)) () (fun j hj=>absurd hj (by omega)) hn
  (fun i b hi hI=>by
   cases hp:p i with
   | true=>exact .inl ⟨(),(hstep i hi hI).1 hp,fun j hj=>by rcases Nat.lt_succ_iff_lt_or_eq.1 hj with h|rfl;exact hI j h;exact hp⟩
   | false=>
     refine .inr ⟨exE,outE,hE,(hstep i hi hI).2 hp,?_⟩
     rw [if_neg]
     intro h
     rw [h i hi] at hp;cases hp)
  (fun b hI=>⟨exN,out,hN,hend,by rw [if_pos hI]⟩)
 rw [h1,h2]
structure RawB (r:Raw):Prop where
 n:Lim r.l1
 d:Lim r.l2
 bn:r.l1.length≤17179869184
 bd:r.l2.length≤17179869184
theorem RawB.few{r:Raw}(h:RawB r):r.few=true:=by
 unfold Raw.few
 rw [Bool.and_eq_true]
 exact ⟨Nat.ble_eq_true_of_le h.bn,Nat.ble_eq_true_of_le h.bd⟩
theorem rr_1{F:Raw→AV}{r:Raw}(h:RawB r):o1 F [.agg [.lit (.bool r.s),natA r.l1,natA r.l2]]=some (F r):=by
 have h1:decR (.agg [.lit (.bool r.s),natA r.l1,natA r.l2])=some r:=decR_av h.n h.d
 simp only [o1,h1,h.few,if_true]
theorem rr_valid{r:Raw}(h:RawB r):fValid [.agg [.lit (.bool r.s),natA r.l1,natA r.l2]]=some (.lit (.bool (decide (RatV r.s r.l1 r.l2)))):=rr_1 h
theorem rr_sign{r:Raw}(h:RawB r):fSign [.agg [.lit (.bool r.s),natA r.l1,natA r.l2]]=some (.lit (.int .i64 (sgR r.q))):=rr_1 h
theorem rr_canon{r:Raw}(h:RawB r):fCanon [.agg [.lit (.bool r.s),natA r.l1,natA r.l2]]=some (.agg [.lit (.bool (rawQ r.q).s),natA (rawQ r.q).l1,natA (rawQ r.q).l2]):=rr_1 h
@[simp] def rawC(r:Raw):List AV:=[.lit (.bool r.s),natA r.l1,natA r.l2]
@[simp] def termRC(t:Int × Raw):List AV:=[.lit (.int .i64 t.1),.lit (.bool t.2.s),natA t.2.l1,natA t.2.l2]
abbrev FormR:=List (Int × Raw) × Raw
@[simp] def formRC(f:FormR):List AV:=[.sl 4 (f.1.map termRC),.lit (.bool f.2.s),natA f.2.l1,natA f.2.l2]
@[simp] theorem okE_rawC(l:List Raw):okEls 3 (l.map rawC)=true:=okEls_map (fun x=>by simp) l
@[simp] theorem okE_termRC(l:List (Int × Raw)):okEls 4 (l.map termRC)=true:=okEls_map (fun x=>by simp) l
@[simp] theorem okE_formRC(l:List FormR):okEls 4 (l.map formRC)=true:=okEls_map (fun x=>by simp) l
structure Treader where
 s:ByteArray
 at_:Int
 bad:Bool
@[simp] def readerC(g:Treader):List AV:=[.lit (.string g.s),.lit (.int .i64 (g.at_)),.lit (.bool g.bad)]
@[simp] def readerV(g:Treader):AV:=.agg [.lit (.string g.s),.lit (.int .i64 (g.at_)),.lit (.bool g.bad)]
@[simp] theorem okE_readerC(l:List Treader):okEls 3 (l.map readerC)=true:=okEls_map (fun x=>by simp) l
structure TLiteral where
 Unit:Int
 On:Bool
@[simp] def literalC(g:TLiteral):List AV:=[.lit (.int .i64 (g.Unit)),.lit (.bool g.On)]
@[simp] def literalV(g:TLiteral):AV:=.agg [.lit (.int .i64 (g.Unit)),.lit (.bool g.On)]
@[simp] theorem okE_literalC(l:List TLiteral):okEls 2 (l.map literalC)=true:=okEls_map (fun x=>by simp) l
structure TInt where
 Neg:Bool
 Mag:List Nat
@[simp] def intC(g:TInt):List AV:=[.lit (.bool g.Neg),natA g.Mag]
@[simp] def intV(g:TInt):AV:=.agg [.lit (.bool g.Neg),natA g.Mag]
@[simp] theorem okE_intC(l:List TInt):okEls 2 (l.map intC)=true:=okEls_map (fun x=>by simp) l
structure TClaim where
 Kind:Int
 Target:Int
 Margin:Rat
 Rows:List Form
@[simp] def claimC(g:TClaim):List AV:=[.lit (.int .i64 (g.Kind)),.lit (.int .i64 (g.Target)),.lit (.bool (rawQ g.Margin).s),natA (rawQ g.Margin).l1,natA (rawQ g.Margin).l2,.sl 4 (g.Rows.map formC)]
@[simp] def claimV(g:TClaim):AV:=.agg [.lit (.int .i64 (g.Kind)),.lit (.int .i64 (g.Target)),.lit (.bool (rawQ g.Margin).s),natA (rawQ g.Margin).l1,natA (rawQ g.Margin).l2,.sl 4 (g.Rows.map formC)]
@[simp] theorem okE_claimC(l:List TClaim):okEls 6 (l.map claimC)=true:=okEls_map (fun x=>by simp) l
structure TDecision where
 Kind:Int
 Index:Int
 At:Rat
@[simp] def decisionC(g:TDecision):List AV:=[.lit (.int .i64 (g.Kind)),.lit (.int .i64 (g.Index)),.lit (.bool (rawQ g.At).s),natA (rawQ g.At).l1,natA (rawQ g.At).l2]
@[simp] def decisionV(g:TDecision):AV:=.agg [.lit (.int .i64 (g.Kind)),.lit (.int .i64 (g.Index)),.lit (.bool (rawQ g.At).s),natA (rawQ g.At).l1,natA (rawQ g.At).l2]
@[simp] theorem okE_decisionC(l:List TDecision):okEls 5 (l.map decisionC)=true:=okEls_map (fun x=>by simp) l
structure TClaimR where
 Kind:Int
 Target:Int
 Margin:Raw
 Rows:List FormR
@[simp] def claimRC(g:TClaimR):List AV:=[.lit (.int .i64 (g.Kind)),.lit (.int .i64 (g.Target)),.lit (.bool g.Margin.s),natA g.Margin.l1,natA g.Margin.l2,.sl 4 (g.Rows.map formRC)]
@[simp] def claimRV(g:TClaimR):AV:=.agg [.lit (.int .i64 (g.Kind)),.lit (.int .i64 (g.Target)),.lit (.bool g.Margin.s),natA g.Margin.l1,natA g.Margin.l2,.sl 4 (g.Rows.map formRC)]
@[simp] theorem okE_claimRC(l:List TClaimR):okEls 6 (l.map claimRC)=true:=okEls_map (fun x=>by simp) l
structure TDecisionR where
 Kind:Int
 Index:Int
 At:Raw
@[simp] def decisionRC(g:TDecisionR):List AV:=[.lit (.int .i64 (g.Kind)),.lit (.int .i64 (g.Index)),.lit (.bool g.At.s),natA g.At.l1,natA g.At.l2]
@[simp] def decisionRV(g:TDecisionR):AV:=.agg [.lit (.int .i64 (g.Kind)),.lit (.int .i64 (g.Index)),.lit (.bool g.At.s),natA g.At.l1,natA g.At.l2]
@[simp] theorem okE_decisionRC(l:List TDecisionR):okEls 5 (l.map decisionRC)=true:=okEls_map (fun x=>by simp) l
end
end Go.Proofs.YtnegdhjdienjlaaGreatDoor
