import Derived.Test.YtdaonnnlgfhlaaaGreatDoorGF13
import Derived.Test.YtdaonnnlgfhlaaaGreatDoorGF16
set_option linter.all false
set_option maxHeartbeats 6400000
set_option maxRecDepth 100000
namespace Go.Proofs.YtdaonnnlgfhlaaaGreatDoor
theorem ZW{m:Nat}{step:St→Option (Ex × St)}{live:List Nat}{s t:St}(h:(match step s with|some (.nrm,s')=>gc m live s'=some t|_=>False)):Zm m step live s t:=by
 revert h
 split
 ·next s' h=>exact fun h2=>⟨s',h,h2⟩
 ·exact False.elim
theorem ZQ{m:Nat}{step:St→Option (Ex × St)}{live:List Nat}{s t:St}{ex:Ex}(h:(match step s with|some (e,s')=>e=ex∧gc m live s'=some t|none=>False)):Zj m step live s ex t:=by
 revert h
 split
 ·next e s' h=>exact fun h2=>⟨s',by rw [h,h2.1],h2.2⟩
 ·exact False.elim
section
open Go.RowKit
theorem ZjS:run 12 8 []=some (.lit (.bool true)):=by kernel_rfl
end
section
open Go.RowKit
def awG(args:List AV):Option AV:=match args with|[]=>some (.lit (.bool true))|_=>none
theorem Zk0:∀args r,awG args=some r→Con Tryz.prog 8 args r:=fun args r hr=>by
 unfold awG at hr
 split at hr
 ·cases hr
  exact ((ZeP 13).pure _ _ (tb_8 12)).2 _ _ ZjS
 ·cases hr
end
section
open Go.RowKit
noncomputable def ZbR(n:Nat):FuncId→Option Orc:=ext (tab (n+13)) 8 (.pure awG)
theorem Zq5(n:Nat):OrcOk Tryz.prog (ZbR n):=(ZeP (n+13)).extP (by kernel_rfl) Zk0
noncomputable def lfR(n:Nat)(args:List AV):Option AV:=fnP Tryz.prog (ZbR n) (Za 6) big (Ym 6) args
theorem Zrz{n:Nat}{args:List AV}{r:AV}(h:lfR n args=some r):Con Tryz.prog 6 args r:=
 Ze3 (Zq5 n) mixed (VR (by kernel_rfl)) (Ua (by kernel_rfl) (VR (by kernel_rfl))) h
theorem ZcQ(n:Nat):ZbR n 8=some (.pure awG):=by unfold ZbR ext;rw [if_pos rfl]
theorem ZaZ(n:Nat):ZbR n 16=some (.pure (run (n+12) 16)):=by unfold ZbR ext;rw [if_neg (by decide)];exact tb_16 _
theorem Ze4(n:Nat):ZbR n 27=some (.pure (run (n+12) 27)):=by unfold ZbR ext;rw [if_neg (by decide)];exact tb_27 _
theorem Zey(n:Nat):ZbR n 28=some (.pure (run (n+12) 28)):=by unfold ZbR ext;rw [if_neg (by decide)];exact tb_28 _
theorem ZjP(n:Nat):ZbR n 29=some (.pure (run (n+12) 29)):=by unfold ZbR ext;rw [if_neg (by decide)];exact tb_29 _
section
variable {a1 : Int} {a0 : List Yo} {n : Nat} {r : Bool} {r3 : Int} {r2 : Bool} {r5 : Int} {r4 : Bool} {r7 : Rat} {r6 : Int}
section
variable(K1:run (n+12) 16 [.sl 4 (a0.map Yw)]=some (.lit (.bool r)))
include K1
theorem ZvP(C2:r=false):
  lfR n [.sl 4 (a0.map Yw),.lit (.int .i64 a1)]=some (.lit (.bool true)):=by
 unfold lfR fnP
 simp+decide [Tryz.f6,K1,C2,ZcQ,awG,ZaZ]
theorem ZuJ(C2:r=true)(C3:3<a1):
  lfR n [.sl 4 (a0.map Yw),.lit (.int .i64 a1)]=some (.lit (.bool true)):=by
 unfold lfR fnP
 simp+decide [Tryz.f6,K1,C2,C3,ZcQ,awG,ZaZ]
section
variable(C2:r=true)(C3:¬3<a1)(K4:run (n+12) 27 [.sl 4 (a0.map Yw),.lit (.int .i64 a1)]=some (.tup [.lit (.bool r2),.lit (.int .i64 r3)]))(K5:run (n+12) 28 [.sl 4 (a0.map Yw),.lit (.int .i64 a1)]=some (.tup [.lit (.bool r4),.lit (.int .i64 r5)]))(C6:r3=r5)(C7:r2=r4)
include C2 C3 K4 K5 C6 C7
theorem ZuP(C8:¬r3=0):
  lfR n [.sl 4 (a0.map Yw),.lit (.int .i64 a1)]=some (.lit (.bool (r3==1))):=by
 have C6_n:(r3 !=r5)=false:=by rw [C6];simp
 have C8_n:(r3 !=0)=true:=by simpa using C8
 unfold lfR fnP
 simp+decide [Tryz.f6,K1,C2,C3,K4,K5,C6_n,C7,C8_n,ZcQ,awG,ZaZ,Ze4,Zey]
section
variable(C8:r3=0)(K9:run (n+12) 29 [.agg [.lit (.int .i64 a1),.sl 4 (a0.map Yw),.sl 4 [],.lit (.bool false),.sl 1 [],.sl 1 []]]=some (.tup [.lit (.int .i64 r6),Zn r7]))
include C8 K9
theorem ZuK(C10:r6=0):
  lfR n [.sl 4 (a0.map Yw),.lit (.int .i64 a1)]=some (.lit (.bool true)):=by
 have C6_n:(r3 !=r5)=false:=by rw [C6];simp
 have C8_n:(r3 !=0)=false:=by rw [C8];simp
 simp only [Zn] at K9
 have C10_:(r6==0)=true:=by rw [C10];simp
 unfold lfR fnP
 simp+decide [Tryz.f6,K1,C2,C3,K4,K5,C6_n,C7,C8_n,K9,C10_,ZcQ,awG,ZaZ,Ze4,Zey,ZjP]
theorem ZtU(C10:¬r6=0):
  lfR n [.sl 4 (a0.map Yw),.lit (.int .i64 a1)]=some (.lit (.bool ((r2==(!(r6==2)))))):=by
 have C6_n:(r3 !=r5)=false:=by rw [C6];simp
 have C8_n:(r3 !=0)=false:=by rw [C8];simp
 simp only [Zn] at K9
 have C10_:(r6==0)=false:=by simpa using C10
 unfold lfR fnP
 simp+decide [Tryz.f6,K1,C2,C3,K4,K5,C6_n,C7,C8_n,K9,C10_,ZcQ,awG,ZaZ,Ze4,Zey,ZjP]
 rfl
end
end
end
end
end
section
open Go.RowKit
noncomputable def QU:Code:=(Zb (ZP Tryz.f29)).getD 0 .skip
noncomputable def ZE:Code:=(Zb (ZP Tryz.f29)).getD 1 .skip
noncomputable def ZR:Code:=(Zb ZE).getD 0 .skip
def YK(a0:ZK)(out_8:List Zf)(out2_8:List ZC)(i_8:Nat):St:=
 ⟨[(3,.ptr 0 0),(4,.lit (.int .i64 (a0.Vars))),(6,.own 1 out_8.length),(7,.own 2 out2_8.length),(8,.lit (.int .i64 (i_8:Int)))],
  [(0,some (.box 26 [.lit (.bool false),.nl 1,.nl 1] false)),
   (1,some (.row 28 4 (out_8.map Zh) 0)),
   (2,some (.row 93 2 (out2_8.map Ye) 0))],3⟩
def Ys(a0:ZK)(out_20:List ZC)(out_16:List Bool)(i_20:Int)(i2_20:Nat)(fz_20:Nat):St:=
 ⟨[(3,.ptr 0 0),(4,.lit (.int .i64 (a0.Vars))),(7,.own 1 out_20.length),(11,.own 2 out_16.length),(12,.lit (.int .i64 1)),(13,.lit (.int .i64 i_20)),(14,.lit (.int .i64 (i2_20:Int)))],
  [(0,some (.box 26 [.lit (.bool false),.nl 1,.nl 1] false)),
   (1,some (.row 93 2 (out_20.map Ye) fz_20)),
   (2,some (.row 4 1 (out_16.map ZcF) 0))],3⟩
def ZY(a0:ZK)(l_16b:List ZC)(out_16b:List Bool)(i_16b:Nat)(i_20:Int)(i2_20:Nat):St:=
 ⟨[(3,.ptr 0 0),(4,.lit (.int .i64 (a0.Vars))),(7,.sl 2 (l_16b.map Ye)),(11,.own 1 out_16b.length),(12,.lit (.int .i64 (i_16b:Int))),(13,.lit (.int .i64 i_20)),(14,.lit (.int .i64 (i2_20:Int)))],
  [(0,some (.box 26 [.lit (.bool false),.nl 1,.nl 1] false)),
   (1,some (.row 4 1 (out_16b.map ZcF) 0))],2⟩
def Z8(a0:ZK)(out2_8:List ZC)(out_16:List Bool):St:=
 ⟨[(3,.ptr 0 0),(4,.lit (.int .i64 (a0.Vars))),(7,.own 1 out2_8.length),(11,.own 2 out_16.length),(12,.lit (.int .i64 1))],
  [(0,some (.box 26 [.lit (.bool false),.nl 1,.nl 1] false)),
   (1,some (.row 93 2 (out2_8.map Ye) 0)),
   (2,some (.row 4 1 (out_16.map ZcF) 0))],3⟩
def YS(a0:ZK)(l_16b:List ZC)(out_16b:List Bool)(i_16b:Nat):St:=
 ⟨[(3,.ptr 0 0),(4,.lit (.int .i64 (a0.Vars))),(7,.sl 2 (l_16b.map Ye)),(11,.own 1 out_16b.length),(12,.lit (.int .i64 (i_16b:Int)))],
  [(0,some (.box 26 [.lit (.bool false),.nl 1,.nl 1] false)),
   (1,some (.row 4 1 (out_16b.map ZcF) 0))],2⟩
def Jg(a0:ZK)(out2_8:List ZC):St:=
 ⟨[(2,.lit (.int .i64 0)),(3,.ptr 0 0),(4,.lit (.int .i64 (a0.Vars))),(7,.own 1 out2_8.length)],
  [(0,some (.box 26 [.lit (.bool false),.nl 1,.nl 1] false)),
   (1,some (.row 93 2 (out2_8.map Ye) 0))],2⟩
def XZ(a0:ZK)(out2_8:List ZC):St:=
 ⟨[(2,.any),(3,.ptr 0 0),(4,.lit (.int .i64 (a0.Vars))),(7,.own 1 out2_8.length)],
  [(0,some (.box 26 [.lit (.bool false),.nl 1,.nl 1] false)),
   (1,some (.row 93 2 (out2_8.map Ye) 0))],2⟩
def WF(a0:ZK)(out_20:List ZC)(out_16:List Bool)(i_20:Int)(fz_20:Nat):St:=
 ⟨[(3,.ptr 0 0),(4,.lit (.int .i64 (a0.Vars))),(7,.own 1 out_20.length),(11,.own 2 out_16.length),(12,.lit (.int .i64 1)),(13,.lit (.int .i64 i_20))],
  [(0,some (.box 26 [.lit (.bool false),.nl 1,.nl 1] false)),
   (1,some (.row 93 2 (out_20.map Ye) fz_20)),
   (2,some (.row 4 1 (out_16.map ZcF) 0))],3⟩
def Y9(a0:ZK)(l_16b:List ZC)(out_16b:List Bool)(i_16b:Nat)(i_20:Int):St:=
 ⟨[(3,.ptr 0 0),(4,.lit (.int .i64 (a0.Vars))),(7,.sl 2 (l_16b.map Ye)),(11,.own 1 out_16b.length),(12,.lit (.int .i64 (i_16b:Int))),(13,.lit (.int .i64 i_20))],
  [(0,some (.box 26 [.lit (.bool false),.nl 1,.nl 1] false)),
   (1,some (.row 4 1 (out_16b.map ZcF) 0))],2⟩
def VZ(a0:ZK)(out_20:List ZC):St:=
 ⟨[(2,.lit (.int .i64 0)),(3,.ptr 0 0),(4,.lit (.int .i64 (a0.Vars))),(7,.own 1 out_20.length)],
  [(0,some (.box 26 [.lit (.bool false),.nl 1,.nl 1] false)),
   (1,some (.row 93 2 (out_20.map Ye) out_20.length))],2⟩
def Uc(a0:ZK)(r58:List ZC):St:=
 ⟨[(2,.lit (.int .i64 0)),(3,.ptr 0 0),(4,.lit (.int .i64 (a0.Vars))),(7,.sl 2 (r58.map Ye))],
  [(0,some (.box 26 [.lit (.bool false),.nl 1,.nl 1] false))],1⟩
def WQ(a0:ZK)(out2_8:List ZC):St:=
 ⟨[(2,.any),(3,.ptr 0 0),(4,.lit (.int .i64 (a0.Vars))),(7,.own 1 out2_8.length)],
  [(0,some (.box 26 [.lit (.bool false),.nl 1,.nl 1] false)),
   (1,some (.row 93 2 (out2_8.map Ye) 0))],2⟩
def Uf(a0:ZK)(l_16b:List ZC):St:=
 ⟨[(2,.lit (.int .i64 0)),(3,.ptr 0 0),(4,.lit (.int .i64 (a0.Vars))),(7,.sl 2 (l_16b.map Ye))],
  [(0,some (.box 26 [.lit (.bool false),.nl 1,.nl 1] false))],1⟩
def V8(a0:ZK)(r65:List ZC):St:=
 ⟨[(2,.lit (.int .i64 0)),(3,.ptr 0 0),(4,.lit (.int .i64 (a0.Vars))),(7,.sl 2 (r65.map Ye))],
  [(0,some (.box 26 [.lit (.bool false),.nl 1,.nl 1] false))],1⟩
def WC(a0:ZK)(l_16b:List ZC):St:=
 ⟨[(2,.any),(3,.ptr 0 0),(4,.lit (.int .i64 (a0.Vars))),(7,.sl 2 (l_16b.map Ye))],
  [(0,some (.box 26 [.lit (.bool false),.nl 1,.nl 1] false))],1⟩
section
variable{i_8:Nat}{q3:Rat}{out_8:List Zf}{a0:ZK}{r8:List Int}{out2_8:List ZC}{r9:Bool}{z3:Int}{n:Nat}{F3:List (Int × Rat)}{fz_20:Nat}{x22:Bool}{out_16:List Bool}{out_20:List ZC}{i_20:Int}{i2_20:Nat}{r55:Int}{r56:Int}
section
variable(C1:(i_8:Int)<(out_8.length:Int))(G2:i_8<out_8.length)(E3:out_8[i_8]?=some (F3,q3))(W4:InI (a0.Vars+1))(K5:run (n+3) 63 [Ze (F3,q3),.lit (.int .i64 (a0.Vars+1))]=some (.tup [.sl 1 (r8.map ZG),.lit (.bool r9)]))
include C1 G2 E3 W4 K5
theorem ZlW(C6:r9=true)(D7:IntKind.u64.wrap (1*2 ^ min ((i_8:Int):Int).toNat IntKind.u64.bits)=z3)(M8:out2_8.length+1≤100000000)(W9:InI ((i_8:Int)+1)):
  Zm 0 (exec Tryz.prog (tab (n+4)) 0 115 (Za 29) big QU) (Za 29 8) (YK a0 out_8 out2_8 i_8) (YK a0 out_8 (out2_8++[(⟨r8,z3⟩:ZC)]) (i_8+1)):=by
 have C1_:i_8<out_8.length:=by omega
 obtain ⟨EL3,EG3⟩:=List.getElem?_eq_some_iff.1 E3
 have W4_:IntKind.i64.wrap (a0.Vars+1)=a0.Vars+1:=Zq W4.1 W4.2
 simp only [Ze] at K5
 have O7:¬(((i_8:Int):Int)<0):=by omega
 simp at D7
 have M8_:∀b,b≤10000→ZT (out2_8.length+1) b=true:=fun b hb=>ZD M8 hb
 have W9_:IntKind.i64.wrap ((i_8:Int)+1)=(i_8:Int)+1:=Zq W9.1 W9.2
 apply ZW
 simp+decide [YK,Zb, Tryz.f29,QU,C1,C1_,EG3,W4_,K5,C6,O7,D7,M8_,W9_]
theorem ZpM(C6:r9=false):
  Zj 0 (exec Tryz.prog (tab (n+4)) 0 115 (Za 29) big QU) (Za 29 (Zo 8)) (YK a0 out_8 out2_8 i_8) (.ret) (Jg a0 out2_8):=by
 have C1_:i_8<out_8.length:=by omega
 obtain ⟨EL3,EG3⟩:=List.getElem?_eq_some_iff.1 E3
 have W4_:IntKind.i64.wrap (a0.Vars+1)=a0.Vars+1:=Zq W4.1 W4.2
 simp only [Ze] at K5
 apply ZQ
 simp+decide [YK,Zb, Tryz.f29,Jg,QU,C1,C1_,EG3,W4_,K5,C6]
end
theorem ZnP(C1:¬(i_8:Int)<(out_8.length:Int)):
  Zj 0 (exec Tryz.prog (tab (n+4)) 0 115 (Za 29) big QU) (Za 29 (Zo 8)) (YK a0 out_8 out2_8 i_8) (.exit 0) (XZ a0 out2_8):=by
 apply ZQ
 simp+decide [YK,Zb, Tryz.f29,XZ,QU,C1]
section
variable(C1:(i2_20:Int)<a0.Vars)(G2:i2_20<out_16.length)(E3:out_16[i2_20]?=some x22)
include C1 G2 E3
theorem Zlt(C4:x22=false)(C5:i_20<0)(W6:InI ((i2_20:Int)+1)):
  Zm 0 (exec Tryz.prog (tab (n+4)) 0 115 (Za 29) big ZR) (Za 29 20) (Ys a0 out_20 out_16 i_20 i2_20 fz_20) (Ys a0 out_20 out_16 (i2_20:Int) (i2_20+1) fz_20):=by
 obtain ⟨EL3,EG3⟩:=List.getElem?_eq_some_iff.1 E3
 have W6_:IntKind.i64.wrap ((i2_20:Int)+1)=(i2_20:Int)+1:=Zq W6.1 W6.2
 apply ZW
 simp+decide [Ys,Zb, Tryz.f29,ZE,ZR,C1,G2,EG3,C4,C5,W6_]
section
variable(C4:x22=false)(C5:¬i_20<0)(K6:run (n+3) 64 [.sl 2 (out_20.map Ye),.lit (.int .i64 (i2_20:Int))]=some (.lit (.int .i64 r55)))(K7:run (n+3) 64 [.sl 2 (out_20.map Ye),.lit (.int .i64 i_20)]=some (.lit (.int .i64 r56)))
include C4 C5 K6 K7
theorem ZlL(C8:r55<r56)(W9:InI ((i2_20:Int)+1)):
  Zm 0 (exec Tryz.prog (tab (n+4)) 0 115 (Za 29) big ZR) (Za 29 20) (Ys a0 out_20 out_16 i_20 i2_20 fz_20) (Ys a0 out_20 out_16 (i2_20:Int) (i2_20+1) out_20.length):=by
 obtain ⟨EL3,EG3⟩:=List.getElem?_eq_some_iff.1 E3
 have W9_:IntKind.i64.wrap ((i2_20:Int)+1)=(i2_20:Int)+1:=Zq W9.1 W9.2
 apply ZW
 simp+decide [Ys,Zb, Tryz.f29,ZE,ZR,C1,G2,EG3,C4,C5,K6,K7,C8,W9_]
theorem ZlE(C8:¬r55<r56)(W9:InI ((i2_20:Int)+1)):
  Zm 0 (exec Tryz.prog (tab (n+4)) 0 115 (Za 29) big ZR) (Za 29 20) (Ys a0 out_20 out_16 i_20 i2_20 fz_20) (Ys a0 out_20 out_16 i_20 (i2_20+1) out_20.length):=by
 obtain ⟨EL3,EG3⟩:=List.getElem?_eq_some_iff.1 E3
 have W9_:IntKind.i64.wrap ((i2_20:Int)+1)=(i2_20:Int)+1:=Zq W9.1 W9.2
 apply ZW
 simp+decide [Ys,Zb, Tryz.f29,ZE,ZR,C1,G2,EG3,C4,C5,K6,K7,C8,W9_]
end
theorem ZkD(C4:x22=true)(W5:InI ((i2_20:Int)+1)):
  Zm 0 (exec Tryz.prog (tab (n+4)) 0 115 (Za 29) big ZR) (Za 29 20) (Ys a0 out_20 out_16 i_20 i2_20 fz_20) (Ys a0 out_20 out_16 i_20 (i2_20+1) fz_20):=by
 obtain ⟨EL3,EG3⟩:=List.getElem?_eq_some_iff.1 E3
 have W5_:IntKind.i64.wrap ((i2_20:Int)+1)=(i2_20:Int)+1:=Zq W5.1 W5.2
 apply ZW
 simp+decide [Ys,Zb, Tryz.f29,ZE,ZR,C1,G2,EG3,C4,W5_]
end
theorem Zki(C1:¬(i2_20:Int)<a0.Vars):
  Zj 0 (exec Tryz.prog (tab (n+4)) 0 115 (Za 29) big ZR) (Za 29 (Zo 20)) (Ys a0 out_20 out_16 i_20 i2_20 fz_20) (.exit 4) (WF a0 out_20 out_16 i_20 fz_20):=by
 apply ZQ
 simp+decide [Ys,Zb, Tryz.f29,WF,ZE,ZR,C1]
end
theorem Zhk{n:Nat}{a0:ZK}{i2_20:Nat}{out_16b:List Bool}{x25:Bool}{i_20:Int}{l_16b:List ZC}{i_16b:Nat}(C1:(i2_20:Int)<a0.Vars)(G2:i2_20<out_16b.length)(E3:out_16b[i2_20]?=some x25)(C4:x25=false)(C5:i_20<0)(W6:InI ((i2_20:Int)+1)):
  Zm 0 (exec Tryz.prog (tab (n+4)) 0 115 (Za 29) big ZR) (Za 29 20) (ZY a0 l_16b out_16b i_16b i_20 i2_20) (ZY a0 l_16b out_16b i_16b (i2_20:Int) (i2_20+1)):=by
 obtain ⟨EL3,EG3⟩:=List.getElem?_eq_some_iff.1 E3
 have W6_:IntKind.i64.wrap ((i2_20:Int)+1)=(i2_20:Int)+1:=Zq W6.1 W6.2
 apply ZW
 simp+decide [ZY,Zb, Tryz.f29,ZE,ZR,C1,G2,EG3,C4,C5,W6_]
theorem ZhH{n:Nat}{a0:ZK}{i2_20:Nat}{out_16b:List Bool}{x25:Bool}{i_20:Int}{l_16b:List ZC}{r62:Int}{r63:Int}{i_16b:Nat}(C1:(i2_20:Int)<a0.Vars)(G2:i2_20<out_16b.length)(E3:out_16b[i2_20]?=some x25)(C4:x25=false)(C5:¬i_20<0)(K6:run (n+3) 64 [.sl 2 (l_16b.map Ye),.lit (.int .i64 (i2_20:Int))]=some (.lit (.int .i64 r62)))(K7:run (n+3) 64 [.sl 2 (l_16b.map Ye),.lit (.int .i64 i_20)]=some (.lit (.int .i64 r63)))(C8:r62<r63)(W9:InI ((i2_20:Int)+1)):
  Zm 0 (exec Tryz.prog (tab (n+4)) 0 115 (Za 29) big ZR) (Za 29 20) (ZY a0 l_16b out_16b i_16b i_20 i2_20) (ZY a0 l_16b out_16b i_16b (i2_20:Int) (i2_20+1)):=by
 obtain ⟨EL3,EG3⟩:=List.getElem?_eq_some_iff.1 E3
 have W9_:IntKind.i64.wrap ((i2_20:Int)+1)=(i2_20:Int)+1:=Zq W9.1 W9.2
 apply ZW
 simp+decide [ZY,Zb, Tryz.f29,ZE,ZR,C1,G2,EG3,C4,C5,K6,K7,C8,W9_]
theorem ZhP{n:Nat}{a0:ZK}{i2_20:Nat}{out_16b:List Bool}{x25:Bool}{i_20:Int}{l_16b:List ZC}{r62:Int}{r63:Int}{i_16b:Nat}(C1:(i2_20:Int)<a0.Vars)(G2:i2_20<out_16b.length)(E3:out_16b[i2_20]?=some x25)(C4:x25=false)(C5:¬i_20<0)(K6:run (n+3) 64 [.sl 2 (l_16b.map Ye),.lit (.int .i64 (i2_20:Int))]=some (.lit (.int .i64 r62)))(K7:run (n+3) 64 [.sl 2 (l_16b.map Ye),.lit (.int .i64 i_20)]=some (.lit (.int .i64 r63)))(C8:¬r62<r63)(W9:InI ((i2_20:Int)+1)):
  Zm 0 (exec Tryz.prog (tab (n+4)) 0 115 (Za 29) big ZR) (Za 29 20) (ZY a0 l_16b out_16b i_16b i_20 i2_20) (ZY a0 l_16b out_16b i_16b i_20 (i2_20+1)):=by
 obtain ⟨EL3,EG3⟩:=List.getElem?_eq_some_iff.1 E3
 have W9_:IntKind.i64.wrap ((i2_20:Int)+1)=(i2_20:Int)+1:=Zq W9.1 W9.2
 apply ZW
 simp+decide [ZY,Zb, Tryz.f29,ZE,ZR,C1,G2,EG3,C4,C5,K6,K7,C8,W9_]
theorem Zig{n:Nat}{a0:ZK}{i2_20:Nat}{out_16b:List Bool}{x25:Bool}{l_16b:List ZC}{i_16b:Nat}{i_20:Int}(C1:(i2_20:Int)<a0.Vars)(G2:i2_20<out_16b.length)(E3:out_16b[i2_20]?=some x25)(C4:x25=true)(W5:InI ((i2_20:Int)+1)):
  Zm 0 (exec Tryz.prog (tab (n+4)) 0 115 (Za 29) big ZR) (Za 29 20) (ZY a0 l_16b out_16b i_16b i_20 i2_20) (ZY a0 l_16b out_16b i_16b i_20 (i2_20+1)):=by
 obtain ⟨EL3,EG3⟩:=List.getElem?_eq_some_iff.1 E3
 have W5_:IntKind.i64.wrap ((i2_20:Int)+1)=(i2_20:Int)+1:=Zq W5.1 W5.2
 apply ZW
 simp+decide [ZY,Zb, Tryz.f29,ZE,ZR,C1,G2,EG3,C4,W5_]
theorem ZhL{n:Nat}{a0:ZK}{i2_20:Nat}{l_16b:List ZC}{out_16b:List Bool}{i_16b:Nat}{i_20:Int}(C1:¬(i2_20:Int)<a0.Vars):
  Zj 0 (exec Tryz.prog (tab (n+4)) 0 115 (Za 29) big ZR) (Za 29 (Zo 20)) (ZY a0 l_16b out_16b i_16b i_20 i2_20) (.exit 4) (Y9 a0 l_16b out_16b i_16b i_20):=by
 apply ZQ
 simp+decide [ZY,Zb, Tryz.f29,Y9,ZE,ZR,C1]
section
variable {r59 : Bool} {fz_20 : Nat} {r58 : List ZC} {r57 : Int} {out_16 : List Bool} {out_20 : List ZC} {out2_8 : List ZC} {a0 : ZK} {i_20 : Int} {n : Nat}
section
variable(C1:1≤a0.Vars)(L2:Zk Tryz.prog (tab (n+4)) 0 115 (Za 29) 20 ZR (Ys a0 out2_8 out_16 (-1) 0 0)=some (.exit 4,WF a0 out_20 out_16 i_20 fz_20))(K3:run (n+3) 64 [.sl 2 (out_20.map Ye),.lit (.int .i64 i_20)]=some (.lit (.int .i64 r57)))
include C1 L2 K3
theorem Zkh(C4:¬20000<r57)(K5:run (n+3) 65 [.sl 2 (out_20.map Ye),.lit (.int .i64 i_20),.lit (.int .i64 1)]=some (.tup [.sl 2 (r58.map Ye),.lit (.bool r59)]))(C6:r59=true)(G7:i_20.toNat<out_16.length)(Z7:0≤i_20):
  Zm 0 (exec Tryz.prog (tab (n+4)) 0 115 (Za 29) big ZE) (Za 29 16) (Z8 a0 out2_8 out_16) (YS a0 r58 (out_16.set i_20.toNat true) 2):=by
 apply ZW
 simp+decide [Z8,Zb, Tryz.f29,ZE,YS,C1]
 rw [Zi (C':=ZR) (e:=(Ys a0 out2_8 out_16 (-1) 0 0)) ?_ ?_,L2]
 rotate_left
 ·kernel_rfl
 ·simp+decide [Ys, Tryz.f29]
 simp+decide [WF, Tryz.f29,K3,C4,K5,C6,G7,Z7]
theorem Zkw(C4:20000<r57):
  Zj 0 (exec Tryz.prog (tab (n+4)) 0 115 (Za 29) big ZE) (Za 29 (Zo 16)) (Z8 a0 out2_8 out_16) (.ret) (VZ a0 out_20):=by
 apply ZQ
 simp+decide [Z8,Zb, Tryz.f29,VZ,ZE,C1]
 rw [Zi (C':=ZR) (e:=(Ys a0 out2_8 out_16 (-1) 0 0)) ?_ ?_,L2]
 rotate_left
 ·kernel_rfl
 ·simp+decide [Ys, Tryz.f29]
 simp+decide [WF, Tryz.f29,K3,C4]
theorem Zlk(C4:¬20000<r57)(K5:run (n+3) 65 [.sl 2 (out_20.map Ye),.lit (.int .i64 i_20),.lit (.int .i64 1)]=some (.tup [.sl 2 (r58.map Ye),.lit (.bool r59)]))(C6:r59=false):
  Zj 0 (exec Tryz.prog (tab (n+4)) 0 115 (Za 29) big ZE) (Za 29 (Zo 16)) (Z8 a0 out2_8 out_16) (.ret) (Uc a0 r58):=by
 apply ZQ
 simp+decide [Z8,Zb, Tryz.f29,Uc,ZE,C1]
 rw [Zi (C':=ZR) (e:=(Ys a0 out2_8 out_16 (-1) 0 0)) ?_ ?_,L2]
 rotate_left
 ·kernel_rfl
 ·simp+decide [Ys, Tryz.f29]
 simp+decide [WF, Tryz.f29,K3,C4,K5,C6]
end
theorem Zlo(C1:¬1≤a0.Vars):
  Zj 0 (exec Tryz.prog (tab (n+4)) 0 115 (Za 29) big ZE) (Za 29 (Zo 16)) (Z8 a0 out2_8 out_16) (.exit 2) (WQ a0 out2_8):=by
 apply ZQ
 simp+decide [Z8,Zb, Tryz.f29,WQ,ZE,C1]
end
theorem Zho{n:Nat}{a0:ZK}{i_16b:Nat}{l_16b:List ZC}{out_16b:List Bool}{i_20:Int}{r64:Int}{r65:List ZC}{r66:Bool}(C1:(i_16b:Int)≤a0.Vars)(L2:Zk Tryz.prog (tab (n+4)) 0 115 (Za 29) 20 ZR (ZY a0 l_16b out_16b i_16b (-1) 0)=some (.exit 4,Y9 a0 l_16b out_16b i_16b i_20))(K3:run (n+3) 64 [.sl 2 (l_16b.map Ye),.lit (.int .i64 i_20)]=some (.lit (.int .i64 r64)))(C4:¬20000<r64)(K5:run (n+3) 65 [.sl 2 (l_16b.map Ye),.lit (.int .i64 i_20),.lit (.int .i64 (i_16b:Int))]=some (.tup [.sl 2 (r65.map Ye),.lit (.bool r66)]))(C6:r66=true)(G7:i_20.toNat<out_16b.length)(Z7:0≤i_20)(W9:InI ((i_16b:Int)+1)):
  Zm 0 (exec Tryz.prog (tab (n+4)) 0 115 (Za 29) big ZE) (Za 29 16) (YS a0 l_16b out_16b i_16b) (YS a0 r65 (out_16b.set i_20.toNat true) (i_16b+1)):=by
 have W9_:IntKind.i64.wrap ((i_16b:Int)+1)=(i_16b:Int)+1:=Zq W9.1 W9.2
 apply ZW
 simp+decide [YS,Zb, Tryz.f29,ZE,C1]
 rw [Zi (C':=ZR) (e:=(ZY a0 l_16b out_16b i_16b (-1) 0)) ?_ ?_,L2]
 rotate_left
 ·kernel_rfl
 ·simp+decide [ZY, Tryz.f29]
 simp+decide [Y9, Tryz.f29,K3,C4,K5,C6,G7,Z7,W9_]
theorem Zh6{n:Nat}{a0:ZK}{i_16b:Nat}{l_16b:List ZC}{out_16b:List Bool}{i_20:Int}{r64:Int}(C1:(i_16b:Int)≤a0.Vars)(L2:Zk Tryz.prog (tab (n+4)) 0 115 (Za 29) 20 ZR (ZY a0 l_16b out_16b i_16b (-1) 0)=some (.exit 4,Y9 a0 l_16b out_16b i_16b i_20))(K3:run (n+3) 64 [.sl 2 (l_16b.map Ye),.lit (.int .i64 i_20)]=some (.lit (.int .i64 r64)))(C4:20000<r64):
  Zj 0 (exec Tryz.prog (tab (n+4)) 0 115 (Za 29) big ZE) (Za 29 (Zo 16)) (YS a0 l_16b out_16b i_16b) (.ret) (Uf a0 l_16b):=by
 apply ZQ
 simp+decide [YS,Zb, Tryz.f29,Uf,ZE,C1]
 rw [Zi (C':=ZR) (e:=(ZY a0 l_16b out_16b i_16b (-1) 0)) ?_ ?_,L2]
 rotate_left
 ·kernel_rfl
 ·simp+decide [ZY, Tryz.f29]
 simp+decide [Y9, Tryz.f29,K3,C4]
theorem Zij{n:Nat}{a0:ZK}{i_16b:Nat}{l_16b:List ZC}{out_16b:List Bool}{i_20:Int}{r64:Int}{r65:List ZC}{r66:Bool}(C1:(i_16b:Int)≤a0.Vars)(L2:Zk Tryz.prog (tab (n+4)) 0 115 (Za 29) 20 ZR (ZY a0 l_16b out_16b i_16b (-1) 0)=some (.exit 4,Y9 a0 l_16b out_16b i_16b i_20))(K3:run (n+3) 64 [.sl 2 (l_16b.map Ye),.lit (.int .i64 i_20)]=some (.lit (.int .i64 r64)))(C4:¬20000<r64)(K5:run (n+3) 65 [.sl 2 (l_16b.map Ye),.lit (.int .i64 i_20),.lit (.int .i64 (i_16b:Int))]=some (.tup [.sl 2 (r65.map Ye),.lit (.bool r66)]))(C6:r66=false):
  Zj 0 (exec Tryz.prog (tab (n+4)) 0 115 (Za 29) big ZE) (Za 29 (Zo 16)) (YS a0 l_16b out_16b i_16b) (.ret) (V8 a0 r65):=by
 apply ZQ
 simp+decide [YS,Zb, Tryz.f29,V8,ZE,C1]
 rw [Zi (C':=ZR) (e:=(ZY a0 l_16b out_16b i_16b (-1) 0)) ?_ ?_,L2]
 rotate_left
 ·kernel_rfl
 ·simp+decide [ZY, Tryz.f29]
 simp+decide [Y9, Tryz.f29,K3,C4,K5,C6]
theorem Zif{n:Nat}{a0:ZK}{i_16b:Nat}{l_16b:List ZC}{out_16b:List Bool}(C1:¬(i_16b:Int)≤a0.Vars):
  Zj 0 (exec Tryz.prog (tab (n+4)) 0 115 (Za 29) big ZE) (Za 29 (Zo 16)) (YS a0 l_16b out_16b i_16b) (.exit 2) (WC a0 l_16b):=by
 apply ZQ
 simp+decide [YS,Zb, Tryz.f29,WC,ZE,C1]
section
variable {r : Zf} {a0 : ZK} {out2_8 : List ZC} {r3 : Zf} {r2 : Zf} {n : Nat} {out_20 : List ZC} {r58 : List ZC} {r67 : Int} {r68 : Rat} {l_16b : List ZC} {r65 : List ZC} {r70 : Rat} {r69 : Int}
section
variable(K1:run (n+3) 62 [.lit (.int .i64 (a0.Vars))]=some (Ze r))(K2:run (n+3) 61 [Ze r,Ze a0.Objective]=some (Ze r2))(K4:run (n+3) 41 [Ze r2,Zn (ofQ (-1))]=some (Ze r3))(M5:a0.Rows.length+2≤100000000)(C6:¬62<(a0.Rows.length+2:Int))
include K1 K2 K4 M5 C6
theorem Zv2(L7:Zk Tryz.prog (tab (n+4)) 0 115 (Za 29) 8 QU (YK a0 ([r2,r3]++a0.Rows) [] 0)=some (.ret,Jg a0 out2_8)):
  run (n+4) 29 [XY a0]=some (.tup [.lit (.int .i64 0),.agg [.lit (.bool false),.sl 1 [],.sl 1 []]]):=by
 simp only [Ze] at K1
 simp only [Ze] at K2
 have K3:=WD (z:=(-1)) (by omega) (by omega)
 simp only [Zn,Ze] at K4
 have M5_:∀b,b≤10000→ZT (a0.Rows.length+2) b=true:=fun b hb=>ZD M5 hb
 have M5_r:2+(a0.Rows.length)=a0.Rows.length+2:=Nat.add_comm _ _
 unfold run fnP
 simp+decide [Tryz.f29,K1,K2,K3,K4,M5_,M5_r,C6]
 rw [Zi (C':=QU) (e:=(YK a0 ([r2,r3]++a0.Rows) [] 0)) ?_ ?_,L7]
 rotate_left
 ·kernel_rfl
 ·simp+decide [YK]
 simp+decide [Jg]
section
variable(L7:Zk Tryz.prog (tab (n+4)) 0 115 (Za 29) 8 QU (YK a0 ([r2,r3]++a0.Rows) [] 0)=some (.exit 0,XZ a0 out2_8))(M8:a0.Vars.toNat≤100000000)(C9:0≤a0.Vars)
include L7 M8 C9
theorem ZuO(L10:Zk Tryz.prog (tab (n+4)) 0 115 (Za 29) 16 ZE (Z8 a0 out2_8 (List.replicate a0.Vars.toNat false))=some (.ret,VZ a0 out_20)):
  run (n+4) 29 [XY a0]=some (.tup [.lit (.int .i64 0),.agg [.lit (.bool false),.sl 1 [],.sl 1 []]]):=by
 simp only [Ze] at K1
 simp only [Ze] at K2
 have K3:=WD (z:=(-1)) (by omega) (by omega)
 simp only [Zn,Ze] at K4
 have M5_:∀b,b≤10000→ZT (a0.Rows.length+2) b=true:=fun b hb=>ZD M5 hb
 have M5_r:2+(a0.Rows.length)=a0.Rows.length+2:=Nat.add_comm _ _
 have M8_:∀b,b≤10000→ZT (a0.Vars.toNat) b=true:=fun b hb=>ZD M8 hb
 unfold run fnP
 simp+decide [Tryz.f29,K1,K2,K3,K4,M5_,M5_r,C6]
 rw [Zi (C':=QU) (e:=(YK a0 ([r2,r3]++a0.Rows) [] 0)) ?_ ?_,L7]
 rotate_left
 ·kernel_rfl
 ·simp+decide [YK]
 simp+decide [XZ,M8_,C9]
 rw [Zi (C':=ZE) (e:=(Z8 a0 out2_8 (List.replicate a0.Vars.toNat false))) ?_ ?_,L10]
 rotate_left
 ·kernel_rfl
 ·simp+decide [Z8]
 simp+decide [VZ]
theorem Zus(L10:Zk Tryz.prog (tab (n+4)) 0 115 (Za 29) 16 ZE (Z8 a0 out2_8 (List.replicate a0.Vars.toNat false))=some (.ret,Uc a0 r58)):
  run (n+4) 29 [XY a0]=some (.tup [.lit (.int .i64 0),.agg [.lit (.bool false),.sl 1 [],.sl 1 []]]):=by
 simp only [Ze] at K1
 simp only [Ze] at K2
 have K3:=WD (z:=(-1)) (by omega) (by omega)
 simp only [Zn,Ze] at K4
 have M5_:∀b,b≤10000→ZT (a0.Rows.length+2) b=true:=fun b hb=>ZD M5 hb
 have M5_r:2+(a0.Rows.length)=a0.Rows.length+2:=Nat.add_comm _ _
 have M8_:∀b,b≤10000→ZT (a0.Vars.toNat) b=true:=fun b hb=>ZD M8 hb
 unfold run fnP
 simp+decide [Tryz.f29,K1,K2,K3,K4,M5_,M5_r,C6]
 rw [Zi (C':=QU) (e:=(YK a0 ([r2,r3]++a0.Rows) [] 0)) ?_ ?_,L7]
 rotate_left
 ·kernel_rfl
 ·simp+decide [YK]
 simp+decide [XZ,M8_,C9]
 rw [Zi (C':=ZE) (e:=(Z8 a0 out2_8 (List.replicate a0.Vars.toNat false))) ?_ ?_,L10]
 rotate_left
 ·kernel_rfl
 ·simp+decide [Z8]
 simp+decide [Uc]
theorem Zve(L10:Zk Tryz.prog (tab (n+4)) 0 115 (Za 29) 16 ZE (Z8 a0 out2_8 (List.replicate a0.Vars.toNat false))=some (.exit 2,WQ a0 out2_8))(K11:run (n+3) 66 [.sl 2 (out2_8.map Ye),.lit (.int .i64 (a0.Vars))]=some (.tup [.lit (.int .i64 r67),Zn r68])):
  run (n+4) 29 [XY a0]=some (.tup [.lit (.int .i64 r67),Zn r68]):=by
 simp only [Ze] at K1
 simp only [Ze] at K2
 have K3:=WD (z:=(-1)) (by omega) (by omega)
 simp only [Zn,Ze] at K4
 have M5_:∀b,b≤10000→ZT (a0.Rows.length+2) b=true:=fun b hb=>ZD M5 hb
 have M5_r:2+(a0.Rows.length)=a0.Rows.length+2:=Nat.add_comm _ _
 have M8_:∀b,b≤10000→ZT (a0.Vars.toNat) b=true:=fun b hb=>ZD M8 hb
 simp only [Zn] at K11
 unfold run fnP
 simp+decide [Tryz.f29,K1,K2,K3,K4,M5_,M5_r,C6]
 rw [Zi (C':=QU) (e:=(YK a0 ([r2,r3]++a0.Rows) [] 0)) ?_ ?_,L7]
 rotate_left
 ·kernel_rfl
 ·simp+decide [YK]
 simp+decide [XZ,M8_,C9]
 rw [Zi (C':=ZE) (e:=(Z8 a0 out2_8 (List.replicate a0.Vars.toNat false))) ?_ ?_,L10]
 rotate_left
 ·kernel_rfl
 ·simp+decide [Z8]
 simp+decide [WQ,K11]
theorem Zt8(L10:Zk Tryz.prog (tab (n+4)) 0 115 (Za 29) 16 ZE (Z8 a0 out2_8 (List.replicate a0.Vars.toNat false))=some (.ret,Uf a0 l_16b)):
  run (n+4) 29 [XY a0]=some (.tup [.lit (.int .i64 0),.agg [.lit (.bool false),.sl 1 [],.sl 1 []]]):=by
 simp only [Ze] at K1
 simp only [Ze] at K2
 have K3:=WD (z:=(-1)) (by omega) (by omega)
 simp only [Zn,Ze] at K4
 have M5_:∀b,b≤10000→ZT (a0.Rows.length+2) b=true:=fun b hb=>ZD M5 hb
 have M5_r:2+(a0.Rows.length)=a0.Rows.length+2:=Nat.add_comm _ _
 have M8_:∀b,b≤10000→ZT (a0.Vars.toNat) b=true:=fun b hb=>ZD M8 hb
 unfold run fnP
 simp+decide [Tryz.f29,K1,K2,K3,K4,M5_,M5_r,C6]
 rw [Zi (C':=QU) (e:=(YK a0 ([r2,r3]++a0.Rows) [] 0)) ?_ ?_,L7]
 rotate_left
 ·kernel_rfl
 ·simp+decide [YK]
 simp+decide [XZ,M8_,C9]
 rw [Zi (C':=ZE) (e:=(Z8 a0 out2_8 (List.replicate a0.Vars.toNat false))) ?_ ?_,L10]
 rotate_left
 ·kernel_rfl
 ·simp+decide [Z8]
 simp+decide [Uf]
theorem Zvg(L10:Zk Tryz.prog (tab (n+4)) 0 115 (Za 29) 16 ZE (Z8 a0 out2_8 (List.replicate a0.Vars.toNat false))=some (.ret,V8 a0 r65)):
  run (n+4) 29 [XY a0]=some (.tup [.lit (.int .i64 0),.agg [.lit (.bool false),.sl 1 [],.sl 1 []]]):=by
 simp only [Ze] at K1
 simp only [Ze] at K2
 have K3:=WD (z:=(-1)) (by omega) (by omega)
 simp only [Zn,Ze] at K4
 have M5_:∀b,b≤10000→ZT (a0.Rows.length+2) b=true:=fun b hb=>ZD M5 hb
 have M5_r:2+(a0.Rows.length)=a0.Rows.length+2:=Nat.add_comm _ _
 have M8_:∀b,b≤10000→ZT (a0.Vars.toNat) b=true:=fun b hb=>ZD M8 hb
 unfold run fnP
 simp+decide [Tryz.f29,K1,K2,K3,K4,M5_,M5_r,C6]
 rw [Zi (C':=QU) (e:=(YK a0 ([r2,r3]++a0.Rows) [] 0)) ?_ ?_,L7]
 rotate_left
 ·kernel_rfl
 ·simp+decide [YK]
 simp+decide [XZ,M8_,C9]
 rw [Zi (C':=ZE) (e:=(Z8 a0 out2_8 (List.replicate a0.Vars.toNat false))) ?_ ?_,L10]
 rotate_left
 ·kernel_rfl
 ·simp+decide [Z8]
 simp+decide [V8]
theorem Zt1(L10:Zk Tryz.prog (tab (n+4)) 0 115 (Za 29) 16 ZE (Z8 a0 out2_8 (List.replicate a0.Vars.toNat false))=some (.exit 2,WC a0 l_16b))(K11:run (n+3) 66 [.sl 2 (l_16b.map Ye),.lit (.int .i64 (a0.Vars))]=some (.tup [.lit (.int .i64 r69),Zn r70])):
  run (n+4) 29 [XY a0]=some (.tup [.lit (.int .i64 r69),Zn r70]):=by
 simp only [Ze] at K1
 simp only [Ze] at K2
 have K3:=WD (z:=(-1)) (by omega) (by omega)
 simp only [Zn,Ze] at K4
 have M5_:∀b,b≤10000→ZT (a0.Rows.length+2) b=true:=fun b hb=>ZD M5 hb
 have M5_r:2+(a0.Rows.length)=a0.Rows.length+2:=Nat.add_comm _ _
 have M8_:∀b,b≤10000→ZT (a0.Vars.toNat) b=true:=fun b hb=>ZD M8 hb
 simp only [Zn] at K11
 unfold run fnP
 simp+decide [Tryz.f29,K1,K2,K3,K4,M5_,M5_r,C6]
 rw [Zi (C':=QU) (e:=(YK a0 ([r2,r3]++a0.Rows) [] 0)) ?_ ?_,L7]
 rotate_left
 ·kernel_rfl
 ·simp+decide [YK]
 simp+decide [XZ,M8_,C9]
 rw [Zi (C':=ZE) (e:=(Z8 a0 out2_8 (List.replicate a0.Vars.toNat false))) ?_ ?_,L10]
 rotate_left
 ·kernel_rfl
 ·simp+decide [Z8]
 simp+decide [WC,K11]
end
end
end
end
section
open Go.RowKit
noncomputable def Ju:Code:=(Zb (ZP Tryz.f95)).getD 0 .skip
def UN(i_2:Int)(i2_2:Int):St:=
 ⟨[(0,.lit (.int .u64 i_2)),(3,.lit (.int .i64 i2_2))],
  [],0⟩
def UI(i2_2:Int):St:=
 ⟨[(3,.lit (.int .i64 i2_2))],
  [],0⟩
section
variable {i2_2 : Int} {i_2 : Int} {n : Nat} {a0 : Int}
theorem Zms(C1:0<i_2)(W2:InI (i_2.tmod 2))(W3:InI (i2_2+(i_2.tmod 2)))(W4:IntKind.u64.wrap (i_2.tdiv 2)=i_2.tdiv 2):
  Zm 0 (exec Tryz.prog (tab n) 0 14 (Za 95) big Ju) (Za 95 2) (UN i_2 i2_2) (UN (i_2.tdiv 2) (i2_2+(i_2.tmod 2))):=by
 have W2_:IntKind.i64.wrap (i_2.tmod 2)=i_2.tmod 2:=Zq W2.1 W2.2
 have W3_:IntKind.i64.wrap (i2_2+(i_2.tmod 2))=i2_2+(i_2.tmod 2):=Zq W3.1 W3.2
 apply ZW
 simp+decide [UN,Zb, Tryz.f95,Ju,C1,W2_,W3_,W4]
theorem ZfA(C1:¬0<i_2):
  Zj 0 (exec Tryz.prog (tab n) 0 14 (Za 95) big Ju) (Za 95 (Zo 2)) (UN i_2 i2_2) (.exit 0) (UI i2_2):=by
 apply ZQ
 simp+decide [UN,Zb, Tryz.f95,UI,Ju,C1]
theorem Zuc(L1:Zk Tryz.prog (tab n) 0 14 (Za 95) 2 Ju (UN a0 0)=some (.exit 0,UI i2_2)):
  run n 95 [.lit (.int .u64 a0)]=some (.lit (.int .i64 i2_2)):=by
 unfold run fnP
 simp+decide [Tryz.f95]
 rw [Zi (C':=Ju) (e:=(UN a0 0)) ?_ ?_,L1]
 rotate_left
 ·kernel_rfl
 ·simp+decide [UN]
 simp+decide [UI]
end
noncomputable def Vi:Code:=(Zb (ZP Tryz.f64)).getD 0 .skip
def Xr(a0:List ZC)(a1:Int)(i_3:Nat)(i2_3:Nat)(i3_3:Nat):St:=
 ⟨[(0,.sl 2 (a0.map Ye)),(1,.lit (.int .i64 a1)),(5,.lit (.int .i64 (i_3:Int))),(6,.lit (.int .i64 (i2_3:Int))),(7,.lit (.int .i64 (i3_3:Int)))],
  [],0⟩
def Zaf(i_3:Nat)(i2_3:Nat):St:=
 ⟨[(5,.lit (.int .i64 (i_3:Int))),(6,.lit (.int .i64 (i2_3:Int)))],
  [],0⟩
section
variable {i_3 : Nat} {a0 : List ZC} {i2_3 : Nat} {a1 : Int} {x6 : Int} {x5 : ZC} {n : Nat} {i3_3 : Nat}
section
variable(C1:(i3_3:Int)<(a0.length:Int))(E2:a0[i3_3]?=some x5)(E3:x5.c[a1.toNat]?=some x6)(Z3:0≤a1)
include C1 E2 E3 Z3
theorem Zpl(C4:0<x6)(W5:InI ((i_3:Int)+1))(C6:¬x6<0)(W7:InI ((i3_3:Int)+1)):
  Zm 0 (exec Tryz.prog (tab n) 0 39 (Za 64) big Vi) (Za 64 3) (Xr a0 a1 i_3 i2_3 i3_3) (Xr a0 a1 (i_3+1) i2_3 (i3_3+1)):=by
 have C1_:i3_3<a0.length:=by omega
 obtain ⟨EL2,EG2⟩:=List.getElem?_eq_some_iff.1 E2
 obtain ⟨EL3,EG3⟩:=List.getElem?_eq_some_iff.1 E3
 have W5_:IntKind.i64.wrap ((i_3:Int)+1)=(i_3:Int)+1:=Zq W5.1 W5.2
 have W7_:IntKind.i64.wrap ((i3_3:Int)+1)=(i3_3:Int)+1:=Zq W7.1 W7.2
 apply ZW
 simp+decide [Xr,Zb, Tryz.f64,Vi,C1,C1_,EG2,EL3,EG3,Z3,C4,W5_,C6,W7_]
theorem Zoh(C4:¬0<x6)(C5:x6<0)(W6:InI ((i2_3:Int)+1))(W7:InI ((i3_3:Int)+1)):
  Zm 0 (exec Tryz.prog (tab n) 0 39 (Za 64) big Vi) (Za 64 3) (Xr a0 a1 i_3 i2_3 i3_3) (Xr a0 a1 i_3 (i2_3+1) (i3_3+1)):=by
 have C1_:i3_3<a0.length:=by omega
 obtain ⟨EL2,EG2⟩:=List.getElem?_eq_some_iff.1 E2
 obtain ⟨EL3,EG3⟩:=List.getElem?_eq_some_iff.1 E3
 have W6_:IntKind.i64.wrap ((i2_3:Int)+1)=(i2_3:Int)+1:=Zq W6.1 W6.2
 have W7_:IntKind.i64.wrap ((i3_3:Int)+1)=(i3_3:Int)+1:=Zq W7.1 W7.2
 apply ZW
 simp+decide [Xr,Zb, Tryz.f64,Vi,C1,C1_,EG2,EL3,EG3,Z3,C4,C5,W6_,W7_]
theorem ZpS(C4:¬0<x6)(C5:¬x6<0)(W6:InI ((i3_3:Int)+1)):
  Zm 0 (exec Tryz.prog (tab n) 0 39 (Za 64) big Vi) (Za 64 3) (Xr a0 a1 i_3 i2_3 i3_3) (Xr a0 a1 i_3 i2_3 (i3_3+1)):=by
 have C1_:i3_3<a0.length:=by omega
 obtain ⟨EL2,EG2⟩:=List.getElem?_eq_some_iff.1 E2
 obtain ⟨EL3,EG3⟩:=List.getElem?_eq_some_iff.1 E3
 have W6_:IntKind.i64.wrap ((i3_3:Int)+1)=(i3_3:Int)+1:=Zq W6.1 W6.2
 apply ZW
 simp+decide [Xr,Zb, Tryz.f64,Vi,C1,C1_,EG2,EL3,EG3,Z3,C4,C5,W6_]
end
theorem ZmI(C1:¬(i3_3:Int)<(a0.length:Int)):
  Zj 0 (exec Tryz.prog (tab n) 0 39 (Za 64) big Vi) (Za 64 (Zo 3)) (Xr a0 a1 i_3 i2_3 i3_3) (.exit 0) (Zaf i_3 i2_3):=by
 apply ZQ
 simp+decide [Xr,Zb, Tryz.f64,Zaf,Vi,C1]
theorem Zwr(L1:Zk Tryz.prog (tab n) 0 39 (Za 64) 3 Vi (Xr a0 a1 0 0 0)=some (.exit 0,Zaf i_3 i2_3))(W2:InI ((i_3:Int)*(i2_3:Int))):
  run n 64 [.sl 2 (a0.map Ye),.lit (.int .i64 a1)]=some (.lit (.int .i64 ((i_3:Int)*(i2_3:Int)))):=by
 have W2_:IntKind.i64.wrap ((i_3:Int)*(i2_3:Int))=(i_3:Int)*(i2_3:Int):=Zq W2.1 W2.2
 unfold run fnP
 simp+decide [Tryz.f64]
 rw [Zi (C':=Vi) (e:=(Xr a0 a1 0 0 0)) ?_ ?_,L1]
 rotate_left
 ·kernel_rfl
 ·simp+decide [Xr]
 simp+decide [Zaf,W2_]
end
noncomputable def Vn:Code:=(Zb (ZP Tryz.f65)).getD 0 .skip
noncomputable def Qj:Code:=(Zb (ZP Tryz.f65)).getD 1 .skip
noncomputable def YC:Code:=(Zb Qj).getD 0 .skip
noncomputable def WZ:Code:=(Zb YC).getD 0 .skip
def Xu(a0:List ZC)(a1:Int)(a2:Int)(out_3:List ZC)(i_3:Nat):St:=
 ⟨[(0,.sl 2 (a0.map Ye)),(1,.lit (.int .i64 a1)),(2,.lit (.int .i64 a2)),(8,.own 0 out_3.length),(9,.lit (.int .i64 (i_3:Int)))],
  [(0,some (.row 93 2 (out_3.map Ye) 0))],1⟩
def Xm(a0:List ZC)(a1:Int)(a2:Int)(out_11:List ZC)(i_8:Nat)(i_11:Nat)(out_16:List Int)(i_16:Nat):St:=
 ⟨[(0,.sl 2 (a0.map Ye)),(1,.lit (.int .i64 a1)),(2,.lit (.int .i64 a2)),(8,.own 0 out_11.length),(10,.lit (.int .i64 (i_8:Int))),(11,.lit (.int .i64 (i_11:Int))),(12,.own 1 out_16.length),(13,.lit (.int .i64 (i_16:Int)))],
  [(0,some (.row 93 2 (out_11.map Ye) 0)),
   (1,some (.row 3 1 (out_16.map ZG) 0))],2⟩
def Yn(a0:List ZC)(a1:Int)(a2:Int)(out_11:List ZC)(i_8:Nat)(i_11:Nat):St:=
 ⟨[(0,.sl 2 (a0.map Ye)),(1,.lit (.int .i64 a1)),(2,.lit (.int .i64 a2)),(8,.own 0 out_11.length),(10,.lit (.int .i64 (i_8:Int))),(11,.lit (.int .i64 (i_11:Int)))],
  [(0,some (.row 93 2 (out_11.map Ye) 0))],1⟩
def XS(a0:List ZC)(a1:Int)(a2:Int)(out_8:List ZC)(i_8:Nat):St:=
 ⟨[(0,.sl 2 (a0.map Ye)),(1,.lit (.int .i64 a1)),(2,.lit (.int .i64 a2)),(8,.own 0 out_8.length),(10,.lit (.int .i64 (i_8:Int)))],
  [(0,some (.row 93 2 (out_8.map Ye) 0))],1⟩
def Uw(a0:List ZC)(a1:Int)(a2:Int)(out_3:List ZC):St:=
 ⟨[(0,.sl 2 (a0.map Ye)),(1,.lit (.int .i64 a1)),(2,.lit (.int .i64 a2)),(8,.own 0 out_3.length)],
  [(0,some (.row 93 2 (out_3.map Ye) 0))],1⟩
def Vs(a0:List ZC)(a1:Int)(a2:Int)(out_11:List ZC)(i_8:Nat)(i_11:Nat)(out_16:List Int):St:=
 ⟨[(0,.sl 2 (a0.map Ye)),(1,.lit (.int .i64 a1)),(2,.lit (.int .i64 a2)),(8,.own 0 out_11.length),(10,.lit (.int .i64 (i_8:Int))),(11,.lit (.int .i64 (i_11:Int))),(12,.own 1 out_16.length)],
  [(0,some (.row 93 2 (out_11.map Ye) 0)),
   (1,some (.row 3 1 (out_16.map ZG) 0))],2⟩
def Ul(a0:List ZC)(a1:Int)(a2:Int)(out_11:List ZC)(i_8:Nat):St:=
 ⟨[(0,.sl 2 (a0.map Ye)),(1,.lit (.int .i64 a1)),(2,.lit (.int .i64 a2)),(6,.own 0 0),(7,.lit (.bool false)),(8,.own 1 out_11.length),(10,.lit (.int .i64 (i_8:Int)))],
  [(0,some (.row 93 2 [] 0)),
   (1,some (.row 93 2 (out_11.map Ye) 0))],2⟩
def V4(a0:List ZC)(a1:Int)(a2:Int)(out_11:List ZC)(i_8:Nat):St:=
 ⟨[(0,.sl 2 (a0.map Ye)),(1,.lit (.int .i64 a1)),(2,.lit (.int .i64 a2)),(6,.any),(7,.any),(8,.own 0 out_11.length),(10,.lit (.int .i64 (i_8:Int)))],
  [(0,some (.row 93 2 (out_11.map Ye) 0))],1⟩
def J0(out_11:List ZC):St:=
 ⟨[(6,.own 0 0),(7,.lit (.bool false)),(8,.own 1 out_11.length)],
  [(0,some (.row 93 2 [] 0)),
   (1,some (.row 93 2 (out_11.map Ye) 0))],2⟩
def JX(out_8:List ZC):St:=
 ⟨[(6,.any),(7,.any),(8,.own 0 out_8.length)],
  [(0,some (.row 93 2 (out_8.map Ye) 0))],1⟩
section
variable {i_3 : Nat} {a0 : List ZC} {a1 : Int} {x6 : Int} {x5 : ZC} {n : Nat} {a2 : Int} {out_3 : List ZC} {i_8 : Nat} {out_11 : List ZC} {x205 : ZC} {x204 : Int} {out_16 : List Int} {x206 : Int} {i_11 : Nat} {x203 : ZC} {x207 : Int} {i_16 : Nat} {x208 : Int} {x187 : ZC} {x188 : Int} {x189 : ZC} {x190 : Int} {z17 : Int} {r17 : Int} {R9 : List Int} {x209 : ZC} {z18 : Int} {x210 : ZC} {r18 : Bool} {out_8 : List ZC}
theorem ZpX(C1:(i_3:Int)<(a0.length:Int))(E2:a0[i_3]?=some x5)(E3:x5.c[a1.toNat]?=some x6)(Z3:0≤a1)(C4:x6=0)(M5:out_3.length+1≤100000000)(W6:InI ((i_3:Int)+1)):
  Zm 0 (exec Tryz.prog (tab (n+2)) 0 157 (Za 65) big Vn) (Za 65 3) (Xu a0 a1 a2 out_3 i_3) (Xu a0 a1 a2 (out_3++[x5]) (i_3+1)):=by
 have C1_:i_3<a0.length:=by omega
 obtain ⟨EL2,EG2⟩:=List.getElem?_eq_some_iff.1 E2
 obtain ⟨EL3,EG3⟩:=List.getElem?_eq_some_iff.1 E3
 have C4_:(x6==0)=true:=by rw [C4];simp
 have M5_:∀b,b≤10000→ZT (out_3.length+1) b=true:=fun b hb=>ZD M5 hb
 have W6_:IntKind.i64.wrap ((i_3:Int)+1)=(i_3:Int)+1:=Zq W6.1 W6.2
 apply ZW
 simp+decide [Xu,Zb, Tryz.f65,Vn,C1,C1_,EG2,EL3,EG3,Z3,C4_,M5_,W6_]
theorem ZlS(C1:(i_3:Int)<(a0.length:Int))(E2:a0[i_3]?=some x5)(E3:x5.c[a1.toNat]?=some x6)(Z3:0≤a1)(C4:¬x6=0)(W5:InI ((i_3:Int)+1)):
  Zm 0 (exec Tryz.prog (tab (n+2)) 0 157 (Za 65) big Vn) (Za 65 3) (Xu a0 a1 a2 out_3 i_3) (Xu a0 a1 a2 out_3 (i_3+1)):=by
 have C1_:i_3<a0.length:=by omega
 obtain ⟨EL2,EG2⟩:=List.getElem?_eq_some_iff.1 E2
 obtain ⟨EL3,EG3⟩:=List.getElem?_eq_some_iff.1 E3
 have C4_:(x6==0)=false:=by simpa using C4
 have W5_:IntKind.i64.wrap ((i_3:Int)+1)=(i_3:Int)+1:=Zq W5.1 W5.2
 apply ZW
 simp+decide [Xu,Zb, Tryz.f65,Vn,C1,C1_,EG2,EL3,EG3,Z3,C4_,W5_]
theorem ZmW(C1:¬(i_3:Int)<(a0.length:Int)):
  Zj 0 (exec Tryz.prog (tab (n+2)) 0 157 (Za 65) big Vn) (Za 65 (Zo 3)) (Xu a0 a1 a2 out_3 i_3) (.exit 0) (Uw a0 a1 a2 out_3):=by
 apply ZQ
 simp+decide [Xu,Zb, Tryz.f65,Uw,Vn,C1]
theorem ZjZ(C1:(i_16:Int)<(out_16.length:Int))(E2:a0[i_8]?=some x203)(E3:x203.c[i_16]?=some x204)(E4:a0[i_11]?=some x205)(E5:x205.c[a1.toNat]?=some x206)(Z5:0≤a1)(W6:InI ((-x206)))(W7:InI (x204*(-x206)))(E8:x205.c[i_16]?=some x207)(E9:x203.c[a1.toNat]?=some x208)(Z9:0≤a1)(W10:InI (x207*x208))(W11:InI ((x204*(-x206))+(x207*x208)))(G12:i_16<out_16.length)(W14:InI ((i_16:Int)+1)):
  Zm 0 (exec Tryz.prog (tab (n+2)) 0 157 (Za 65) big WZ) (Za 65 16) (Xm a0 a1 a2 out_11 i_8 i_11 out_16 i_16) (Xm a0 a1 a2 out_11 i_8 i_11 (out_16.set i_16 (((x204*(-x206))+(x207*x208)))) (i_16+1)):=by
 have C1_:i_16<out_16.length:=by omega
 obtain ⟨EL2,EG2⟩:=List.getElem?_eq_some_iff.1 E2
 obtain ⟨EL3,EG3⟩:=List.getElem?_eq_some_iff.1 E3
 obtain ⟨EL4,EG4⟩:=List.getElem?_eq_some_iff.1 E4
 obtain ⟨EL5,EG5⟩:=List.getElem?_eq_some_iff.1 E5
 have W6_:IntKind.i64.wrap ((-x206))=(-x206):=Zq W6.1 W6.2
 have W7_:IntKind.i64.wrap (x204*(-x206))=x204*(-x206):=Zq W7.1 W7.2
 obtain ⟨EL8,EG8⟩:=List.getElem?_eq_some_iff.1 E8
 obtain ⟨EL9,EG9⟩:=List.getElem?_eq_some_iff.1 E9
 have W10_:IntKind.i64.wrap (x207*x208)=x207*x208:=Zq W10.1 W10.2
 have W11_:IntKind.i64.wrap ((x204*(-x206))+(x207*x208))=(x204*(-x206))+(x207*x208):=Zq W11.1 W11.2
 have W14_:IntKind.i64.wrap ((i_16:Int)+1)=(i_16:Int)+1:=Zq W14.1 W14.2
 apply ZW
 simp+decide [Xm,Zb, Tryz.f65,Qj,YC,WZ,C1,C1_,EL2,EG2,EL3,EG3,EL4,EG4,EL5,EG5,Z5,W6_,W7_,EL8,EG8,EL9,EG9,W10_,W11_,W14_]
theorem Zj7(C1:¬(i_16:Int)<(out_16.length:Int)):
  Zj 0 (exec Tryz.prog (tab (n+2)) 0 157 (Za 65) big WZ) (Za 65 (Zo 16)) (Xm a0 a1 a2 out_11 i_8 i_11 out_16 i_16) (.exit 6) (Vs a0 a1 a2 out_11 i_8 i_11 out_16):=by
 apply ZQ
 simp+decide [Xm,Zb, Tryz.f65,Vs,Qj,YC,WZ,C1]
section
variable(C1:(i_11:Int)<(a0.length:Int))(E2:a0[i_8]?=some x187)(E3:x187.c[a1.toNat]?=some x188)(Z3:0≤a1)
include C1 E2 E3 Z3
theorem Zkq(C4:x188≤0)(W5:InI ((i_11:Int)+1)):
  Zm 0 (exec Tryz.prog (tab (n+2)) 0 157 (Za 65) big YC) (Za 65 11) (Yn a0 a1 a2 out_11 i_8 i_11) (Yn a0 a1 a2 out_11 i_8 (i_11+1)):=by
 obtain ⟨EL2,EG2⟩:=List.getElem?_eq_some_iff.1 E2
 obtain ⟨EL3,EG3⟩:=List.getElem?_eq_some_iff.1 E3
 have W5_:IntKind.i64.wrap ((i_11:Int)+1)=(i_11:Int)+1:=Zq W5.1 W5.2
 apply ZW
 simp+decide [Yn,Zb, Tryz.f65,Qj,YC,C1,EL2,EG2,EL3,EG3,Z3,C4,W5_]
section
variable(C4:¬x188≤0)(E5:a0[i_11]?=some x189)(E6:x189.c[a1.toNat]?=some x190)(Z6:0≤a1)
include C4 E5 E6 Z6
theorem ZkA(C7:0≤x190)(W8:InI ((i_11:Int)+1)):
  Zm 0 (exec Tryz.prog (tab (n+2)) 0 157 (Za 65) big YC) (Za 65 11) (Yn a0 a1 a2 out_11 i_8 i_11) (Yn a0 a1 a2 out_11 i_8 (i_11+1)):=by
 have C1_:i_11<a0.length:=by omega
 obtain ⟨EL2,EG2⟩:=List.getElem?_eq_some_iff.1 E2
 obtain ⟨EL3,EG3⟩:=List.getElem?_eq_some_iff.1 E3
 obtain ⟨EL5,EG5⟩:=List.getElem?_eq_some_iff.1 E5
 obtain ⟨EL6,EG6⟩:=List.getElem?_eq_some_iff.1 E6
 have W8_:IntKind.i64.wrap ((i_11:Int)+1)=(i_11:Int)+1:=Zq W8.1 W8.2
 apply ZW
 simp+decide [Yn,Zb, Tryz.f65,Qj,YC,C1,C1_,EL2,EG2,EL3,EG3,Z3,C4,EG5,EL6,EG6,C7,W8_]
section
variable(C7:¬0≤x190)(D8:IntKind.u64.wrap ((((x187.from_:Int) % 2 ^ IntKind.u64.bits).toNat ||| ((x189.from_:Int) % 2 ^ IntKind.u64.bits).toNat:Nat):Int)=z17)(K9:run (n+1) 95 [.lit (.int .u64 z17)]=some (.lit (.int .i64 r17)))(W10:InI (a2+1))
include C7 D8 K9 W10
theorem Zll(C11:a2+1<r17)(W12:InI ((i_11:Int)+1)):
  Zm 0 (exec Tryz.prog (tab (n+2)) 0 157 (Za 65) big YC) (Za 65 11) (Yn a0 a1 a2 out_11 i_8 i_11) (Yn a0 a1 a2 out_11 i_8 (i_11+1)):=by
 have C1_:i_11<a0.length:=by omega
 obtain ⟨EL2,EG2⟩:=List.getElem?_eq_some_iff.1 E2
 obtain ⟨EL3,EG3⟩:=List.getElem?_eq_some_iff.1 E3
 obtain ⟨EL5,EG5⟩:=List.getElem?_eq_some_iff.1 E5
 obtain ⟨EL6,EG6⟩:=List.getElem?_eq_some_iff.1 E6
 have W10_:IntKind.i64.wrap (a2+1)=a2+1:=Zq W10.1 W10.2
 have W12_:IntKind.i64.wrap ((i_11:Int)+1)=(i_11:Int)+1:=Zq W12.1 W12.2
 apply ZW
 simp+decide [Yn,Zb, Tryz.f65,Qj,YC,C1,C1_,EL2,EG2,EL3,EG3,Z3,C4,EG5,EL6,EG6,C7,D8,K9,W10_,C11,W12_]
section
variable(C11:¬a2+1<r17)(M12:x187.c.length≤100000000)(L13:Zk Tryz.prog (tab (n+2)) 0 157 (Za 65) 16 WZ (Xm a0 a1 a2 out_11 i_8 i_11 (List.replicate x187.c.length 0) 0)=some (.exit 6,Vs a0 a1 a2 out_11 i_8 i_11 out_16))(K14:Zp (n+1) 94 [.own 0 out_16.length] [.row 3 1 (out_16.map ZG) 0]=some (.lit (.bool r18),[(0,.row 3 1 (R9.map ZG) 0)]))(Q14:R9.length=out_16.length)
include C11 M12 L13 K14 Q14
theorem ZjX(C15:r18=true)(E16:a0[i_8]?=some x209)(E17:a0[i_11]?=some x210)(D18:IntKind.u64.wrap ((((x209.from_:Int) % 2 ^ IntKind.u64.bits).toNat ||| ((x210.from_:Int) % 2 ^ IntKind.u64.bits).toNat:Nat):Int)=z18)(M19:out_11.length+1≤100000000)(W20:InI ((i_11:Int)+1)):
  Zm 0 (exec Tryz.prog (tab (n+2)) 0 157 (Za 65) big YC) (Za 65 11) (Yn a0 a1 a2 out_11 i_8 i_11) (Yn a0 a1 a2 (out_11++[(⟨R9,z18⟩:ZC)]) i_8 (i_11+1)):=by
 have C1_:i_11<a0.length:=by omega
 obtain ⟨EL2,EG2⟩:=List.getElem?_eq_some_iff.1 E2
 obtain ⟨EL3,EG3⟩:=List.getElem?_eq_some_iff.1 E3
 obtain ⟨EL5,EG5⟩:=List.getElem?_eq_some_iff.1 E5
 obtain ⟨EL6,EG6⟩:=List.getElem?_eq_some_iff.1 E6
 have W10_:IntKind.i64.wrap (a2+1)=a2+1:=Zq W10.1 W10.2
 have M12_:∀b,b≤10000→ZT (x187.c.length) b=true:=fun b hb=>ZD M12 hb
 rw [E2] at E16
 obtain rfl:=Option.some.inj E16
 rw [E5] at E17
 obtain rfl:=Option.some.inj E17
 try obtain rfl:=D8.symm.trans D18
 have M19_:∀b,b≤10000→ZT (out_11.length+1) b=true:=fun b hb=>ZD M19 hb
 have W20_:IntKind.i64.wrap ((i_11:Int)+1)=(i_11:Int)+1:=Zq W20.1 W20.2
 apply ZW
 simp+decide [Yn,Zb, Tryz.f65,Qj,YC,C1,C1_,EL2,EG2,EL3,EG3,Z3,C4,EG5,EL6,EG6,C7,D8,K9,W10_,C11,M12_]
 rw [Zi (C':=WZ) (e:=(Xm a0 a1 a2 out_11 i_8 i_11 (List.replicate x187.c.length 0) 0)) ?_ ?_,L13]
 rotate_left
 ·kernel_rfl
 ·simp+decide [Xm, Tryz.f65]
 simp+decide [Vs, Tryz.f65,C1_,EL2,EG2,EG5,D8,Q14,K14,C15,M19_,W20_]
theorem ZkP(C15:r18=false):
  Zj 0 (exec Tryz.prog (tab (n+2)) 0 157 (Za 65) big YC) (Za 65 (Zo 11)) (Yn a0 a1 a2 out_11 i_8 i_11) (.ret) (Ul a0 a1 a2 out_11 i_8):=by
 have C1_:i_11<a0.length:=by omega
 obtain ⟨EL2,EG2⟩:=List.getElem?_eq_some_iff.1 E2
 obtain ⟨EL3,EG3⟩:=List.getElem?_eq_some_iff.1 E3
 obtain ⟨EL5,EG5⟩:=List.getElem?_eq_some_iff.1 E5
 obtain ⟨EL6,EG6⟩:=List.getElem?_eq_some_iff.1 E6
 have W10_:IntKind.i64.wrap (a2+1)=a2+1:=Zq W10.1 W10.2
 have M12_:∀b,b≤10000→ZT (x187.c.length) b=true:=fun b hb=>ZD M12 hb
 apply ZQ
 simp+decide [Yn,Zb, Tryz.f65,Ul,Qj,YC,C1,C1_,EL2,EG2,EL3,EG3,Z3,C4,EG5,EL6,EG6,C7,D8,K9,W10_,C11,M12_]
 rw [Zi (C':=WZ) (e:=(Xm a0 a1 a2 out_11 i_8 i_11 (List.replicate x187.c.length 0) 0)) ?_ ?_,L13]
 rotate_left
 ·kernel_rfl
 ·simp+decide [Xm, Tryz.f65]
 simp+decide [Vs, Tryz.f65,K14,C15]
end
end
end
end
theorem Zlb(C1:¬(i_11:Int)<(a0.length:Int)):
  Zj 0 (exec Tryz.prog (tab (n+2)) 0 157 (Za 65) big YC) (Za 65 (Zo 11)) (Yn a0 a1 a2 out_11 i_8 i_11) (.exit 4) (V4 a0 a1 a2 out_11 i_8):=by
 apply ZQ
 simp+decide [Yn,Zb, Tryz.f65,V4,Qj,YC,C1]
theorem ZnQ(C1:(i_8:Int)<(a0.length:Int))(L2:Zk Tryz.prog (tab (n+2)) 0 157 (Za 65) 11 YC (Yn a0 a1 a2 out_8 i_8 0)=some (.exit 4,V4 a0 a1 a2 out_11 i_8))(W3:InI ((i_8:Int)+1)):
  Zm 0 (exec Tryz.prog (tab (n+2)) 0 157 (Za 65) big Qj) (Za 65 8) (XS a0 a1 a2 out_8 i_8) (XS a0 a1 a2 out_11 (i_8+1)):=by
 have W3_:IntKind.i64.wrap ((i_8:Int)+1)=(i_8:Int)+1:=Zq W3.1 W3.2
 apply ZW
 simp+decide [XS,Zb, Tryz.f65,Qj,C1]
 rw [Zi (C':=YC) (e:=(Yn a0 a1 a2 out_8 i_8 0)) ?_ ?_,L2]
 rotate_left
 ·kernel_rfl
 ·simp+decide [Yn, Tryz.f65]
 simp+decide [V4, Tryz.f65,W3_]
theorem Zn0(C1:(i_8:Int)<(a0.length:Int))(L2:Zk Tryz.prog (tab (n+2)) 0 157 (Za 65) 11 YC (Yn a0 a1 a2 out_8 i_8 0)=some (.ret,Ul a0 a1 a2 out_11 i_8)):
  Zj 0 (exec Tryz.prog (tab (n+2)) 0 157 (Za 65) big Qj) (Za 65 (Zo 8)) (XS a0 a1 a2 out_8 i_8) (.ret) (J0 out_11):=by
 apply ZQ
 simp+decide [XS,Zb, Tryz.f65,J0,Qj,C1]
 rw [Zi (C':=YC) (e:=(Yn a0 a1 a2 out_8 i_8 0)) ?_ ?_,L2]
 rotate_left
 ·kernel_rfl
 ·simp+decide [Yn, Tryz.f65]
 simp+decide [Ul, Tryz.f65]
theorem ZoI(C1:¬(i_8:Int)<(a0.length:Int)):
  Zj 0 (exec Tryz.prog (tab (n+2)) 0 157 (Za 65) big Qj) (Za 65 (Zo 8)) (XS a0 a1 a2 out_8 i_8) (.exit 2) (JX out_8):=by
 apply ZQ
 simp+decide [XS,Zb, Tryz.f65,JX,Qj,C1]
section
variable(L1:Zk Tryz.prog (tab (n+2)) 0 157 (Za 65) 3 Vn (Xu a0 a1 a2 [] 0)=some (.exit 0,Uw a0 a1 a2 out_3))
include L1
theorem ZvK(L2:Zk Tryz.prog (tab (n+2)) 0 157 (Za 65) 8 Qj (XS a0 a1 a2 out_3 0)=some (.ret,J0 out_11)):
  run (n+2) 65 [.sl 2 (a0.map Ye),.lit (.int .i64 a1),.lit (.int .i64 a2)]=some (.tup [.sl 2 [],.lit (.bool false)]):=by
 unfold run fnP
 simp+decide [Tryz.f65]
 rw [Zi (C':=Vn) (e:=(Xu a0 a1 a2 [] 0)) ?_ ?_,L1]
 rotate_left
 ·kernel_rfl
 ·simp+decide [Xu]
 simp+decide [Uw]
 rw [Zi (C':=Qj) (e:=(XS a0 a1 a2 out_3 0)) ?_ ?_,L2]
 rotate_left
 ·kernel_rfl
 ·simp+decide [XS]
 simp+decide [J0]
theorem ZvY(L2:Zk Tryz.prog (tab (n+2)) 0 157 (Za 65) 8 Qj (XS a0 a1 a2 out_3 0)=some (.exit 2,JX out_8)):
  run (n+2) 65 [.sl 2 (a0.map Ye),.lit (.int .i64 a1),.lit (.int .i64 a2)]=some (.tup [.sl 2 (out_8.map Ye),.lit (.bool true)]):=by
 unfold run fnP
 simp+decide [Tryz.f65]
 rw [Zi (C':=Vn) (e:=(Xu a0 a1 a2 [] 0)) ?_ ?_,L1]
 rotate_left
 ·kernel_rfl
 ·simp+decide [Xu]
 simp+decide [Uw]
 rw [Zi (C':=Qj) (e:=(XS a0 a1 a2 out_3 0)) ?_ ?_,L2]
 rotate_left
 ·kernel_rfl
 ·simp+decide [XS]
 simp+decide [JX]
end
end
noncomputable def Yh:Code:=(Zb (ZP Tryz.f66)).getD 0 .skip
def ZM(a0:List ZC)(a1:Int)(d_4:Bool)(d2_4:Bool)(i_4:Nat)(s_4:Rat)(s2_4:Rat):St:=
 ⟨[(0,.sl 2 (a0.map Ye)),(1,.lit (.int .i64 a1)),(5,.ptr 0 0),(6,.lit (.bool d_4)),(7,.lit (.bool d2_4)),(8,.ptr 1 0),(9,.ptr 2 0),(10,.lit (.int .i64 (i_4:Int)))],
  [(0,some (.box 26 [.lit (.bool false),.nl 1,.nl 1] false)),
   (1,some (.box 26 [.lit (.bool (Zd s_4).s),Zc (Zd s_4).l1,Zc (Zd s_4).l2] false)),
   (2,some (.box 26 [.lit (.bool (Zd s2_4).s),Zc (Zd s2_4).l1,Zc (Zd s2_4).l2] false))],3⟩
def KD(d_4:Bool)(d2_4:Bool)(s_4:Rat)(s2_4:Rat):St:=
 ⟨[(4,.lit (.int .i64 2)),(5,.ptr 0 0),(6,.lit (.bool d_4)),(7,.lit (.bool d2_4)),(8,.ptr 1 0),(9,.ptr 2 0)],
  [(0,some (.box 26 [.lit (.bool false),.nl 1,.nl 1] false)),
   (1,some (.box 26 [.lit (.bool (Zd s_4).s),Zc (Zd s_4).l1,Zc (Zd s_4).l2] false)),
   (2,some (.box 26 [.lit (.bool (Zd s2_4).s),Zc (Zd s2_4).l1,Zc (Zd s2_4).l2] false))],3⟩
def WO(d_4:Bool)(d2_4:Bool)(s_4:Rat)(s2_4:Rat):St:=
 ⟨[(4,.any),(5,.ptr 0 0),(6,.lit (.bool d_4)),(7,.lit (.bool d2_4)),(8,.ptr 1 0),(9,.ptr 2 0)],
  [(0,some (.box 26 [.lit (.bool false),.nl 1,.nl 1] false)),
   (1,some (.box 26 [.lit (.bool (Zd s_4).s),Zc (Zd s_4).l1,Zc (Zd s_4).l2] false)),
   (2,some (.box 26 [.lit (.bool (Zd s2_4).s),Zc (Zd s2_4).l1,Zc (Zd s2_4).l2] false))],3⟩
section
variable {i_4 : Nat} {x8 : Int} {a0 : List ZC} {s2_4 : Rat} {a1 : Int} {d2_4 : Bool} {n : Nat} {d_4 : Bool} {x9 : Int} {x7 : ZC} {s_4 : Rat}
section
variable(C1:(i_4:Int)<(a0.length:Int))(E2:a0[i_4]?=some x7)(E3:x7.c[a1.toNat]?=some x8)(Z3:0≤a1)(W4:InI (a1+1))(E5:x7.c[(a1+1).toNat]?=some x9)(Z5:0≤a1+1)
include C1 E2 E3 Z3 W4 E5 Z5
theorem Zk1(C6:x8=0)(C7:¬x9<0)(W8:InI ((i_4:Int)+1)):
  Zm 0 (exec Tryz.prog (tab n) 0 85 (Za 66) big Yh) (Za 66 4) (ZM a0 a1 d_4 d2_4 i_4 s_4 s2_4) (ZM a0 a1 d_4 d2_4 (i_4+1) s_4 s2_4):=by
 have C1_:i_4<a0.length:=by omega
 obtain ⟨EL2,EG2⟩:=List.getElem?_eq_some_iff.1 E2
 obtain ⟨EL3,EG3⟩:=List.getElem?_eq_some_iff.1 E3
 have W4_:IntKind.i64.wrap (a1+1)=a1+1:=Zq W4.1 W4.2
 obtain ⟨EL5,EG5⟩:=List.getElem?_eq_some_iff.1 E5
 have C6_:(x8==0)=true:=by rw [C6];simp
 have W8_:IntKind.i64.wrap ((i_4:Int)+1)=(i_4:Int)+1:=Zq W8.1 W8.2
 apply ZW
 simp+decide [ZM,Zb, Tryz.f66,Yh,Zc,C1,C1_,EG2,EL3,EG3,Z3,W4_,EL5,EG5,Z5,C6_,C7,W8_]
section
variable(C6:¬x8=0)(W7:InI ((-x9)))(W8:InI (-x9))(Y8:InI x8)
include C6 W7 W8 Y8
theorem Zlh(C9:0<x8)(C10:d_4=false)(W11:InI ((i_4:Int)+1)):
  Zm 0 (exec Tryz.prog (tab n) 0 85 (Za 66) big Yh) (Za 66 4) (ZM a0 a1 d_4 d2_4 i_4 s_4 s2_4) (ZM a0 a1 true d2_4 (i_4+1) (YW (-x9) x8) s2_4):=by
 have C1_:i_4<a0.length:=by omega
 obtain ⟨EL2,EG2⟩:=List.getElem?_eq_some_iff.1 E2
 obtain ⟨EL3,EG3⟩:=List.getElem?_eq_some_iff.1 E3
 have W4_:IntKind.i64.wrap (a1+1)=a1+1:=Zq W4.1 W4.2
 obtain ⟨EL5,EG5⟩:=List.getElem?_eq_some_iff.1 E5
 have C6_:(x8==0)=false:=by simpa using C6
 have W7_:IntKind.i64.wrap ((-x9))=(-x9):=Zq W7.1 W7.2
 have K8:=Zbr (x:=(-x9)) (y:=x8) W8 Y8 (by omega)
 have W11_:IntKind.i64.wrap ((i_4:Int)+1)=(i_4:Int)+1:=Zq W11.1 W11.2
 try simp only [Zc] at K8
 apply ZW
 simp+decide [ZM,Zb, Tryz.f66,Yh,Zc,C1,C1_,EG2,EL3,EG3,Z3,W4_,EL5,EG5,Z5,C6_,W7_,K8,C9,C10,W11_]
theorem Zj5(C9:0<x8)(C10:d_4=true)(B11a:H (YW (-x9) x8)≤17179869184)(B11b:H s_4≤17179869184)(C12:0<sgR ((YW (-x9) x8)-s_4))(W13:InI ((i_4:Int)+1)):
  Zm 0 (exec Tryz.prog (tab n) 0 85 (Za 66) big Yh) (Za 66 4) (ZM a0 a1 d_4 d2_4 i_4 s_4 s2_4) (ZM a0 a1 true d2_4 (i_4+1) (YW (-x9) x8) s2_4):=by
 have C1_:i_4<a0.length:=by omega
 obtain ⟨EL2,EG2⟩:=List.getElem?_eq_some_iff.1 E2
 obtain ⟨EL3,EG3⟩:=List.getElem?_eq_some_iff.1 E3
 have W4_:IntKind.i64.wrap (a1+1)=a1+1:=Zq W4.1 W4.2
 obtain ⟨EL5,EG5⟩:=List.getElem?_eq_some_iff.1 E5
 have C6_:(x8==0)=false:=by simpa using C6
 have W7_:IntKind.i64.wrap ((-x9))=(-x9):=Zq W7.1 W7.2
 have K8:=Zbr (x:=(-x9)) (y:=x8) W8 Y8 (by omega)
 have K11:=ZdR (p:=YW (-x9) x8) (q:=s_4) B11a B11b
 have W13_:IntKind.i64.wrap ((i_4:Int)+1)=(i_4:Int)+1:=Zq W13.1 W13.2
 try simp only [Zc] at K8
 try simp only [Zc] at K11
 apply ZW
 simp+decide [ZM,Zb, Tryz.f66,Yh,Zc,C1,C1_,EG2,EL3,EG3,Z3,W4_,EL5,EG5,Z5,C6_,W7_,K8,C9,C10,K11,C12,W13_]
theorem Zk5(C9:0<x8)(C10:d_4=true)(B11a:H (YW (-x9) x8)≤17179869184)(B11b:H s_4≤17179869184)(C12:¬0<sgR ((YW (-x9) x8)-s_4))(W13:InI ((i_4:Int)+1)):
  Zm 0 (exec Tryz.prog (tab n) 0 85 (Za 66) big Yh) (Za 66 4) (ZM a0 a1 d_4 d2_4 i_4 s_4 s2_4) (ZM a0 a1 true d2_4 (i_4+1) s_4 s2_4):=by
 have C1_:i_4<a0.length:=by omega
 obtain ⟨EL2,EG2⟩:=List.getElem?_eq_some_iff.1 E2
 obtain ⟨EL3,EG3⟩:=List.getElem?_eq_some_iff.1 E3
 have W4_:IntKind.i64.wrap (a1+1)=a1+1:=Zq W4.1 W4.2
 obtain ⟨EL5,EG5⟩:=List.getElem?_eq_some_iff.1 E5
 have C6_:(x8==0)=false:=by simpa using C6
 have W7_:IntKind.i64.wrap ((-x9))=(-x9):=Zq W7.1 W7.2
 have K8:=Zbr (x:=(-x9)) (y:=x8) W8 Y8 (by omega)
 have K11:=ZdR (p:=YW (-x9) x8) (q:=s_4) B11a B11b
 have W13_:IntKind.i64.wrap ((i_4:Int)+1)=(i_4:Int)+1:=Zq W13.1 W13.2
 try simp only [Zc] at K8
 try simp only [Zc] at K11
 apply ZW
 simp+decide [ZM,Zb, Tryz.f66,Yh,Zc,C1,C1_,EG2,EL3,EG3,Z3,W4_,EL5,EG5,Z5,C6_,W7_,K8,C9,C10,K11,C12,W13_]
theorem Zj8(C9:¬0<x8)(C10:d2_4=false)(W11:InI ((i_4:Int)+1)):
  Zm 0 (exec Tryz.prog (tab n) 0 85 (Za 66) big Yh) (Za 66 4) (ZM a0 a1 d_4 d2_4 i_4 s_4 s2_4) (ZM a0 a1 d_4 true (i_4+1) s_4 (YW (-x9) x8)):=by
 have C1_:i_4<a0.length:=by omega
 obtain ⟨EL2,EG2⟩:=List.getElem?_eq_some_iff.1 E2
 obtain ⟨EL3,EG3⟩:=List.getElem?_eq_some_iff.1 E3
 have W4_:IntKind.i64.wrap (a1+1)=a1+1:=Zq W4.1 W4.2
 obtain ⟨EL5,EG5⟩:=List.getElem?_eq_some_iff.1 E5
 have C6_:(x8==0)=false:=by simpa using C6
 have W7_:IntKind.i64.wrap ((-x9))=(-x9):=Zq W7.1 W7.2
 have K8:=Zbr (x:=(-x9)) (y:=x8) W8 Y8 (by omega)
 have W11_:IntKind.i64.wrap ((i_4:Int)+1)=(i_4:Int)+1:=Zq W11.1 W11.2
 try simp only [Zc] at K8
 apply ZW
 simp+decide [ZM,Zb, Tryz.f66,Yh,Zc,C1,C1_,EG2,EL3,EG3,Z3,W4_,EL5,EG5,Z5,C6_,W7_,K8,C9,C10,W11_]
theorem Zj1(C9:¬0<x8)(C10:d2_4=true)(B11a:H (YW (-x9) x8)≤17179869184)(B11b:H s2_4≤17179869184)(C12:sgR ((YW (-x9) x8)-s2_4)<0)(W13:InI ((i_4:Int)+1)):
  Zm 0 (exec Tryz.prog (tab n) 0 85 (Za 66) big Yh) (Za 66 4) (ZM a0 a1 d_4 d2_4 i_4 s_4 s2_4) (ZM a0 a1 d_4 true (i_4+1) s_4 (YW (-x9) x8)):=by
 have C1_:i_4<a0.length:=by omega
 obtain ⟨EL2,EG2⟩:=List.getElem?_eq_some_iff.1 E2
 obtain ⟨EL3,EG3⟩:=List.getElem?_eq_some_iff.1 E3
 have W4_:IntKind.i64.wrap (a1+1)=a1+1:=Zq W4.1 W4.2
 obtain ⟨EL5,EG5⟩:=List.getElem?_eq_some_iff.1 E5
 have C6_:(x8==0)=false:=by simpa using C6
 have W7_:IntKind.i64.wrap ((-x9))=(-x9):=Zq W7.1 W7.2
 have K8:=Zbr (x:=(-x9)) (y:=x8) W8 Y8 (by omega)
 have K11:=ZdR (p:=YW (-x9) x8) (q:=s2_4) B11a B11b
 have W13_:IntKind.i64.wrap ((i_4:Int)+1)=(i_4:Int)+1:=Zq W13.1 W13.2
 try simp only [Zc] at K8
 try simp only [Zc] at K11
 apply ZW
 simp+decide [ZM,Zb, Tryz.f66,Yh,Zc,C1,C1_,EG2,EL3,EG3,Z3,W4_,EL5,EG5,Z5,C6_,W7_,K8,C9,C10,K11,C12,W13_]
theorem Zks(C9:¬0<x8)(C10:d2_4=true)(B11a:H (YW (-x9) x8)≤17179869184)(B11b:H s2_4≤17179869184)(C12:¬sgR ((YW (-x9) x8)-s2_4)<0)(W13:InI ((i_4:Int)+1)):
  Zm 0 (exec Tryz.prog (tab n) 0 85 (Za 66) big Yh) (Za 66 4) (ZM a0 a1 d_4 d2_4 i_4 s_4 s2_4) (ZM a0 a1 d_4 true (i_4+1) s_4 s2_4):=by
 have C1_:i_4<a0.length:=by omega
 obtain ⟨EL2,EG2⟩:=List.getElem?_eq_some_iff.1 E2
 obtain ⟨EL3,EG3⟩:=List.getElem?_eq_some_iff.1 E3
 have W4_:IntKind.i64.wrap (a1+1)=a1+1:=Zq W4.1 W4.2
 obtain ⟨EL5,EG5⟩:=List.getElem?_eq_some_iff.1 E5
 have C6_:(x8==0)=false:=by simpa using C6
 have W7_:IntKind.i64.wrap ((-x9))=(-x9):=Zq W7.1 W7.2
 have K8:=Zbr (x:=(-x9)) (y:=x8) W8 Y8 (by omega)
 have K11:=ZdR (p:=YW (-x9) x8) (q:=s2_4) B11a B11b
 have W13_:IntKind.i64.wrap ((i_4:Int)+1)=(i_4:Int)+1:=Zq W13.1 W13.2
 try simp only [Zc] at K8
 try simp only [Zc] at K11
 apply ZW
 simp+decide [ZM,Zb, Tryz.f66,Yh,Zc,C1,C1_,EG2,EL3,EG3,Z3,W4_,EL5,EG5,Z5,C6_,W7_,K8,C9,C10,K11,C12,W13_]
end
theorem Zla(C6:x8=0)(C7:x9<0):
  Zj 0 (exec Tryz.prog (tab n) 0 85 (Za 66) big Yh) (Za 66 (Zo 4)) (ZM a0 a1 d_4 d2_4 i_4 s_4 s2_4) (.ret) (KD d_4 d2_4 s_4 s2_4):=by
 have C1_:i_4<a0.length:=by omega
 obtain ⟨EL2,EG2⟩:=List.getElem?_eq_some_iff.1 E2
 obtain ⟨EL3,EG3⟩:=List.getElem?_eq_some_iff.1 E3
 have W4_:IntKind.i64.wrap (a1+1)=a1+1:=Zq W4.1 W4.2
 obtain ⟨EL5,EG5⟩:=List.getElem?_eq_some_iff.1 E5
 have C6_:(x8==0)=true:=by rw [C6];simp
 apply ZQ
 simp+decide [ZM,Zb, Tryz.f66,KD,Yh,C1,C1_,EG2,EL3,EG3,Z3,W4_,EL5,EG5,Z5,C6_,C7]
end
theorem ZkY(C1:¬(i_4:Int)<(a0.length:Int)):
  Zj 0 (exec Tryz.prog (tab n) 0 85 (Za 66) big Yh) (Za 66 (Zo 4)) (ZM a0 a1 d_4 d2_4 i_4 s_4 s2_4) (.exit 0) (WO d_4 d2_4 s_4 s2_4):=by
 apply ZQ
 simp+decide [ZM,Zb, Tryz.f66,WO,Yh,C1]
theorem Zry(L1:Zk Tryz.prog (tab n) 0 85 (Za 66) 4 Yh (ZM a0 a1 false false 0 0 0)=some (.ret,KD d_4 d2_4 s_4 s2_4)):
  run n 66 [.sl 2 (a0.map Ye),.lit (.int .i64 a1)]=some (.tup [.lit (.int .i64 2),.agg [.lit (.bool false),.sl 1 [],.sl 1 []]]):=by
 unfold run fnP
 simp+decide [Tryz.f66]
 rw [Zi (C':=Yh) (e:=(ZM a0 a1 false false 0 0 0)) ?_ ?_,L1]
 rotate_left
 ·kernel_rfl
 ·simp+decide [ZM]
 simp+decide [KD]
section
variable(L1:Zk Tryz.prog (tab n) 0 85 (Za 66) 4 Yh (ZM a0 a1 false false 0 0 0)=some (.exit 0,WO d_4 d2_4 s_4 s2_4))
include L1
theorem Zrk(C2:d_4=true)(C3:d2_4=true)(B4a:H s2_4≤17179869184)(B4b:H s_4≤17179869184)(C5:sgR (s2_4-s_4)<0):
  run n 66 [.sl 2 (a0.map Ye),.lit (.int .i64 a1)]=some (.tup [.lit (.int .i64 2),.agg [.lit (.bool false),.sl 1 [],.sl 1 []]]):=by
 have K4:=ZdR (p:=s2_4) (q:=s_4) B4a B4b
 unfold run fnP
 simp+decide [Tryz.f66]
 rw [Zi (C':=Yh) (e:=(ZM a0 a1 false false 0 0 0)) ?_ ?_,L1]
 rotate_left
 ·kernel_rfl
 ·simp+decide [ZM]
 simp+decide [WO,C2,C3,K4,C5]
theorem Zs2(C2:d_4=true)(C3:d2_4=true)(B4a:H s2_4≤17179869184)(B4b:H s_4≤17179869184)(C5:¬sgR (s2_4-s_4)<0):
  run n 66 [.sl 2 (a0.map Ye),.lit (.int .i64 a1)]=some (.tup [.lit (.int .i64 1),Zn s_4]):=by
 have K4:=ZdR (p:=s2_4) (q:=s_4) B4a B4b
 unfold run fnP
 simp+decide [Tryz.f66]
 rw [Zi (C':=Yh) (e:=(ZM a0 a1 false false 0 0 0)) ?_ ?_,L1]
 rotate_left
 ·kernel_rfl
 ·simp+decide [ZM]
 simp+decide [WO,C2,C3,K4,C5]
theorem Zrb(C2:d_4=true)(C3:d2_4=false):
  run n 66 [.sl 2 (a0.map Ye),.lit (.int .i64 a1)]=some (.tup [.lit (.int .i64 1),Zn s_4]):=by
 unfold run fnP
 simp+decide [Tryz.f66]
 rw [Zi (C':=Yh) (e:=(ZM a0 a1 false false 0 0 0)) ?_ ?_,L1]
 rotate_left
 ·kernel_rfl
 ·simp+decide [ZM]
 simp+decide [WO,C2,C3]
theorem Zti(C2:d_4=false):
  run n 66 [.sl 2 (a0.map Ye),.lit (.int .i64 a1)]=some (.tup [.lit (.int .i64 3),.agg [.lit (.bool false),.sl 1 [],.sl 1 []]]):=by
 unfold run fnP
 simp+decide [Tryz.f66]
 rw [Zi (C':=Yh) (e:=(ZM a0 a1 false false 0 0 0)) ?_ ?_,L1]
 rotate_left
 ·kernel_rfl
 ·simp+decide [ZM]
 simp+decide [WO,C2]
end
end
end
end Go.Proofs.YtdaonnnlgfhlaaaGreatDoor
