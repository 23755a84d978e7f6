import Derived.Test.YtdaonnnlgfhlaaaGreatDoorGH13
import Derived.Test.YtdaonnnlgfhlaaaGreatDoorGH16
set_option linter.all false
set_option maxHeartbeats 6400000
set_option maxRecDepth 100000
namespace Go.Proofs.YtdaonnnlgfhlaaaGreatDoor
theorem ZB{m:Nat}{step:St→Option (Ex × St)}{live:List Nat}{s t:St}(h:(match step s with|some (.nrm,s')=>gc m live s'=some t|_=>False)):Zm m step live s t:=by
 revert h
 split
 ·next s' h=>exact fun h2=>⟨s',h,h2⟩
 ·exact False.elim
theorem ZA{m:Nat}{step:St→Option (Ex × St)}{live:List Nat}{s t:St}{ex:Ex}(h:(match step s with|some (e,s')=>e=ex∧gc m live s'=some t|none=>False)):Zj m step live s ex t:=by
 revert h
 split
 ·next e s' h=>exact fun h2=>⟨s',by rw [h,h2.1],h2.2⟩
 ·exact False.elim
section
open Go.RowKit
theorem Zlj:run 12 8 []=some (.lit (.bool true)):=by kernel_rfl
def awG(args:List AV):Option AV:=match args with|[]=>some (.lit (.bool true))|_=>none
theorem Zl6:∀args r,awG args=some r→Con Tryz.prog 8 args r:=fun args r hr=>by
 unfold awG at hr
 split at hr
 ·cases hr
  exact ((ZfQ 13).pure _ _ (tb_8 12)).2 _ _ Zlj
 ·cases hr
noncomputable def JF(n:Nat):FuncId→Option Orc:=ext (tab (n+13)) 8 (.pure awG)
theorem ZsG(n:Nat):OrcOk Tryz.prog (JF n):=(ZfQ (n+13)).extP (by kernel_rfl) Zl6
noncomputable def lmR(n:Nat)(args:List AV):Option AV:=fnP Tryz.prog (JF n) (Za 7) big (Yt 7) args
theorem Zt1{n:Nat}{args:List AV}{r:AV}(h:lmR n args=some r):Con Tryz.prog 7 args r:=
 ZfF (ZsG n) mixed (UE (by kernel_rfl)) (UF (by kernel_rfl) (UE (by kernel_rfl))) h
theorem ZbR(n:Nat):JF n 8=some (.pure awG):=by unfold JF ext;rw [if_pos rfl]
theorem Zc2(n:Nat):JF n 9=some (.pure (run (n+12) 9)):=by unfold JF ext;rw [if_neg (by decide)];exact tb_9 _
theorem Jy(n:Nat):JF n 16=some (.pure (run (n+12) 16)):=by unfold JF ext;rw [if_neg (by decide)];exact tb_16 _
theorem Zf7(n:Nat):JF n 25=some (.pure ZpU):=by unfold JF ext;rw [if_neg (by decide)];exact ZL rfl _
theorem ZjP(n:Nat):JF n 29=some (.pure (run (n+12) 29)):=by unfold JF ext;rw [if_neg (by decide)];exact tb_29 _
theorem ZfP(n:Nat):JF n 30=some (.pure (run (n+12) 30)):=by unfold JF ext;rw [if_neg (by decide)];exact tb_30 _
theorem Zf6(n:Nat):JF n 31=some (.pure (run (n+12) 31)):=by unfold JF ext;rw [if_neg (by decide)];exact tb_31 _
section
variable {a1 : List Yo} {r : Bool} {n : Nat} {a2 : Int} {a0 : Yo} {r2 : Bool} {r5 : Int} {r7 : Rat} {r6 : Int} {r4 : Rat} {r8 : Int} {r3 : Int} {r9 : Int} {r10 : Rat}
section
variable(K1:run (n+12) 16 [.sl 4 (a1.map Ys)]=some (.lit (.bool r)))
include K1
theorem Zvm(C2:r=false):
  lmR n [.agg [.sl 4 (a0.1.map Yj),.lit (.bool a0.2.s),Zd a0.2.l1,Zd a0.2.l2],.sl 4 (a1.map Ys),.lit (.int .i64 a2)]=some (.lit (.bool true)):=by
 unfold lmR fnP
 simp+decide [Tryz.f7,K1,C2,ZbR,awG,Jy]
section
variable(C2:r=true)(K3:run (n+12) 9 [.agg [.sl 4 (a0.1.map Yj),.lit (.bool a0.2.s),Zd a0.2.l1,Zd a0.2.l2]]=some (.lit (.bool r2)))
include C2 K3
theorem Zya(C4:r2=false):
  lmR n [.agg [.sl 4 (a0.1.map Yj),.lit (.bool a0.2.s),Zd a0.2.l1,Zd a0.2.l2],.sl 4 (a1.map Ys),.lit (.int .i64 a2)]=some (.lit (.bool true)):=by
 unfold lmR fnP
 simp+decide [Tryz.f7,K1,C2,K3,C4,ZbR,awG,Zc2,Jy]
theorem ZxP(C4:r2=true)(C5:3<a2):
  lmR n [.agg [.sl 4 (a0.1.map Yj),.lit (.bool a0.2.s),Zd a0.2.l1,Zd a0.2.l2],.sl 4 (a1.map Ys),.lit (.int .i64 a2)]=some (.lit (.bool true)):=by
 unfold lmR fnP
 simp+decide [Tryz.f7,K1,C2,K3,C4,C5,ZbR,awG,Zc2,Jy]
section
variable(C4:r2=true)(C5:¬3<a2)(K6:run (n+12) 30 [.agg [.sl 4 (a0.1.map Yj),.lit (.bool a0.2.s),Zd a0.2.l1,Zd a0.2.l2],.sl 4 (a1.map Ys),.lit (.int .i64 a2)]=some (.tup [.lit (.int .i64 r3),Zk r4,.lit (.int .i64 r5)]))(K7:run (n+12) 31 [.agg [.sl 4 (a0.1.map Yj),.lit (.bool a0.2.s),Zd a0.2.l1,Zd a0.2.l2],.sl 4 (a1.map Ys),.lit (.int .i64 a2)]=some (.tup [.lit (.int .i64 r6),Zk r7,.lit (.int .i64 r8)]))(C8:r5=r8)(C9:r3=r6)(B10a:H r4≤17179869184)(B10b:H r7≤17179869184)(C11:sgR (r4-r7)=0)
include C4 C5 K6 K7 C8 C9 B10a B10b C11
theorem ZxC(C12:¬r5=0):
  lmR n [.agg [.sl 4 (a0.1.map Yj),.lit (.bool a0.2.s),Zd a0.2.l1,Zd a0.2.l2],.sl 4 (a1.map Ys),.lit (.int .i64 a2)]=some (.lit (.bool true)):=by
 simp only [Zk] at K6
 simp only [Zk] at K7
 have C8_n:(r5 !=r8)=false:=by rw [C8];simp
 have C9_n:(r3 !=r6)=false:=by rw [C9];simp
 have K10:=QU (p:=r4) (q:=r7) B10a B10b
 have C11_n:(sgR (r4-r7) !=0)=false:=by rw [C11];simp
 have C12_n:(r5 !=0)=true:=by simpa using C12
 unfold lmR fnP
 simp+decide [Tryz.f7,K1,C2,K3,C4,C5,K6,K7,C8_n,C9_n,K10,C11_n,C12_n,ZbR,awG,Zc2,Jy,Zf7,ZfP,Zf6]
section
variable(C12:r5=0)(K13:run (n+12) 29 [.agg [.lit (.int .i64 a2),.sl 4 (a1.map Ys),.sl 4 (a0.1.map Yj),.lit (.bool a0.2.s),Zd a0.2.l1,Zd a0.2.l2]]=some (.tup [.lit (.int .i64 r9),Zk r10]))
include C12 K13
theorem Zxb(C14:r9=0):
  lmR n [.agg [.sl 4 (a0.1.map Yj),.lit (.bool a0.2.s),Zd a0.2.l1,Zd a0.2.l2],.sl 4 (a1.map Ys),.lit (.int .i64 a2)]=some (.lit (.bool true)):=by
 simp only [Zk] at K6
 simp only [Zk] at K7
 have C8_n:(r5 !=r8)=false:=by rw [C8];simp
 have C9_n:(r3 !=r6)=false:=by rw [C9];simp
 have K10:=QU (p:=r4) (q:=r7) B10a B10b
 have C11_n:(sgR (r4-r7) !=0)=false:=by rw [C11];simp
 have C12_n:(r5 !=0)=false:=by rw [C12];simp
 simp only [Zk] at K13
 have C14_:(r9==0)=true:=by rw [C14];simp
 unfold lmR fnP
 simp+decide [Tryz.f7,K1,C2,K3,C4,C5,K6,K7,C8_n,C9_n,K10,C11_n,C12_n,K13,C14_,ZbR,awG,Zc2,Jy,Zf7,ZjP,ZfP,Zf6]
theorem Zws(C14:¬r9=0)(C15:r3=r9)(B16b:H r10≤17179869184):
  lmR n [.agg [.sl 4 (a0.1.map Yj),.lit (.bool a0.2.s),Zd a0.2.l1,Zd a0.2.l2],.sl 4 (a1.map Ys),.lit (.int .i64 a2)]=some (.lit (.bool ((sgR (r4-r10)==0)))):=by
 simp only [Zk] at K6
 simp only [Zk] at K7
 have C8_n:(r5 !=r8)=false:=by rw [C8];simp
 have C9_n:(r3 !=r6)=false:=by rw [C9];simp
 have K10:=QU (p:=r4) (q:=r7) B10a B10b
 have C11_n:(sgR (r4-r7) !=0)=false:=by rw [C11];simp
 have C12_n:(r5 !=0)=false:=by rw [C12];simp
 simp only [Zk] at K13
 have C14_:(r9==0)=false:=by simpa using C14
 have C15_:(r3==r9)=true:=by rw [C15];simp
 have K16:=QU (p:=r4) (q:=r10) B10a B16b
 unfold lmR fnP
 simp+decide [Tryz.f7,K1,C2,K3,C4,C5,K6,K7,C8_n,C9_n,K10,C11_n,C12_n,K13,C14_,C15_,K16,ZbR,awG,Zc2,Jy,Zf7,ZjP,ZfP,Zf6]
end
end
end
end
end
theorem Zcv:(ptT Tryz.prog 99).isSome=true:=by kernel_rfl
@[simp] theorem ZCj:Zci Tryz.prog .eql 99 (.lit (.pointer none)) (.lit (.pointer none))=some (.lit (.bool true)):=by unfold Zci;rw [if_pos Zcv];rfl
@[simp] theorem ZB7(b o:Nat):Zci Tryz.prog .eql 99 (.ptr b o) (.lit (.pointer none))=some (.lit (.bool false)):=by unfold Zci;rw [if_pos Zcv];rfl
@[simp] theorem ZCm:Zci Tryz.prog .neq 99 (.lit (.pointer none)) (.lit (.pointer none))=some (.lit (.bool false)):=by unfold Zci;rw [if_pos Zcv];rfl
@[simp] theorem ZCf(b o:Nat):Zci Tryz.prog .neq 99 (.ptr b o) (.lit (.pointer none))=some (.lit (.bool true)):=by unfold Zci;rw [if_pos Zcv];rfl
noncomputable def Zz:Code:=(Zb (ZR Tryz.f30)).getD 0 .skip
def Yc(a2:Int)(r5:List Zf):St:=
 ⟨[(2,.lit (.int .i64 a2)),(7,.ptr 0 0),(12,.lit (.pointer none)),(13,.lit (.pointer none)),(56,.sl 4 (r5.map Zh)),(57,.lit (.int .i64 (r5.length:Int))),(58,.lit (.int .i64 0))],
  [(0,some (.box 26 [.lit (.bool false),.nl 1,.nl 1] false))],1⟩
def QF(a2:Int)(r5:List Zf)(i_9b:Nat)(s_9b:Rat):St:=
 ⟨[(2,.lit (.int .i64 a2)),(7,.ptr 0 0),(12,.ptr 1 0),(13,.lit (.pointer none)),(56,.sl 4 (r5.map Zh)),(57,.lit (.int .i64 (r5.length:Int))),(58,.lit (.int .i64 (i_9b:Int)))],
  [(0,some (.box 26 [.lit (.bool false),.nl 1,.nl 1] false)),
   (1,some (.box 26 [.lit (.bool (Ze s_9b).s),Zd (Ze s_9b).l1,Zd (Ze s_9b).l2] false))],2⟩
def QG(a2:Int)(r5:List Zf)(i_9c:Nat)(s_9c:Rat):St:=
 ⟨[(2,.lit (.int .i64 a2)),(7,.ptr 0 0),(12,.lit (.pointer none)),(13,.ptr 1 0),(56,.sl 4 (r5.map Zh)),(57,.lit (.int .i64 (r5.length:Int))),(58,.lit (.int .i64 (i_9c:Int)))],
  [(0,some (.box 26 [.lit (.bool false),.nl 1,.nl 1] false)),
   (1,some (.box 26 [.lit (.bool (Ze s_9c).s),Zd (Ze s_9c).l1,Zd (Ze s_9c).l2] false))],2⟩
def YK(a2:Int)(r5:List Zf)(i_9d:Nat)(s_9d:Rat)(s2_9d:Rat):St:=
 ⟨[(2,.lit (.int .i64 a2)),(7,.ptr 0 0),(12,.ptr 1 0),(13,.ptr 2 0),(56,.sl 4 (r5.map Zh)),(57,.lit (.int .i64 (r5.length:Int))),(58,.lit (.int .i64 (i_9d:Int)))],
  [(0,some (.box 26 [.lit (.bool false),.nl 1,.nl 1] false)),
   (1,some (.box 26 [.lit (.bool (Ze s_9d).s),Zd (Ze s_9d).l1,Zd (Ze s_9d).l2] false)),
   (2,some (.box 26 [.lit (.bool (Ze s2_9d).s),Zd (Ze s2_9d).l1,Zd (Ze s2_9d).l2] false))],3⟩
def ZaW:St:=
 ⟨[(6,.lit (.int .i64 2)),(7,.ptr 0 0),(8,.lit (.int .i64 0)),(12,.lit (.pointer none)),(13,.lit (.pointer none))],
  [(0,some (.box 26 [.lit (.bool false),.nl 1,.nl 1] false))],1⟩
def Zag:St:=
 ⟨[(6,.any),(7,.ptr 0 0),(8,.any),(12,.lit (.pointer none)),(13,.lit (.pointer none))],
  [(0,some (.box 26 [.lit (.bool false),.nl 1,.nl 1] false))],1⟩
def Za3(s_9b:Rat):St:=
 ⟨[(6,.lit (.int .i64 2)),(7,.ptr 0 0),(8,.lit (.int .i64 0)),(12,.ptr 1 0),(13,.lit (.pointer none))],
  [(0,some (.box 26 [.lit (.bool false),.nl 1,.nl 1] false)),
   (1,some (.box 26 [.lit (.bool (Ze s_9b).s),Zd (Ze s_9b).l1,Zd (Ze s_9b).l2] false))],2⟩
def J7(s_9b:Rat):St:=
 ⟨[(6,.any),(7,.ptr 0 0),(8,.any),(12,.ptr 1 0),(13,.lit (.pointer none))],
  [(0,some (.box 26 [.lit (.bool false),.nl 1,.nl 1] false)),
   (1,some (.box 26 [.lit (.bool (Ze s_9b).s),Zd (Ze s_9b).l1,Zd (Ze s_9b).l2] false))],2⟩
def Zav(s_9c:Rat):St:=
 ⟨[(6,.lit (.int .i64 2)),(7,.ptr 0 0),(8,.lit (.int .i64 0)),(12,.lit (.pointer none)),(13,.ptr 1 0)],
  [(0,some (.box 26 [.lit (.bool false),.nl 1,.nl 1] false)),
   (1,some (.box 26 [.lit (.bool (Ze s_9c).s),Zd (Ze s_9c).l1,Zd (Ze s_9c).l2] false))],2⟩
def Zaj(s_9c:Rat):St:=
 ⟨[(6,.any),(7,.ptr 0 0),(8,.any),(12,.lit (.pointer none)),(13,.ptr 1 0)],
  [(0,some (.box 26 [.lit (.bool false),.nl 1,.nl 1] false)),
   (1,some (.box 26 [.lit (.bool (Ze s_9c).s),Zd (Ze s_9c).l1,Zd (Ze s_9c).l2] false))],2⟩
def J6(s_9d:Rat)(s2_9d:Rat):St:=
 ⟨[(6,.lit (.int .i64 2)),(7,.ptr 0 0),(8,.lit (.int .i64 0)),(12,.ptr 1 0),(13,.ptr 2 0)],
  [(0,some (.box 26 [.lit (.bool false),.nl 1,.nl 1] false)),
   (1,some (.box 26 [.lit (.bool (Ze s_9d).s),Zd (Ze s_9d).l1,Zd (Ze s_9d).l2] false)),
   (2,some (.box 26 [.lit (.bool (Ze s2_9d).s),Zd (Ze s2_9d).l1,Zd (Ze s2_9d).l2] false))],3⟩
def Jf(s_9d:Rat)(s2_9d:Rat):St:=
 ⟨[(6,.any),(7,.ptr 0 0),(8,.any),(12,.ptr 1 0),(13,.ptr 2 0)],
  [(0,some (.box 26 [.lit (.bool false),.nl 1,.nl 1] false)),
   (1,some (.box 26 [.lit (.bool (Ze s_9d).s),Zd (Ze s_9d).l1,Zd (Ze s_9d).l2] false)),
   (2,some (.box 26 [.lit (.bool (Ze s2_9d).s),Zd (Ze s2_9d).l1,Zd (Ze s2_9d).l2] false))],3⟩
section
variable{r5:List Zf}{q13:Rat}{r19:Rat}{n:Nat}{a2:Int}{F13:List (Int × Rat)}
section
variable(C1:0<(r5.length:Int))(E2:r5[0]?=some (F13,q13))(K3:run (n+10) 45 [Zc (F13,q13),.lit (.int .i64 a2)]=some (Zk r19))(B4a:H r19≤17179869184)
include C1 E2 K3 B4a
theorem ZnE(C5:¬sgR r19=0)(C6:sgR r19=1)(B7a:H q13≤17179869184):
  Zm 0 (exec Tryz.prog (tab (n+11)) 0 118 (Za 30) big Zz) (Za 30 9) (Yc a2 r5) (QF a2 r5 1 (-q13)):=by
 have C1_:0<r5.length:=by omega
 obtain ⟨EL2,EG2⟩:=gEi E2
 simp only [Zk,Zc] at K3
 have K4:=ZN (p:=r19) B4a
 have C5_:(sgR r19==0)=false:=by simpa using C5
 have C6_:(sgR r19==1)=true:=by rw [C6];simp
 have K7:=VR (p:=q13) B7a
 apply ZB
 simp+decide [Yc,Zb, Tryz.f30,Zz,QF,C1_,EG2,K3,K4,C5_,C6_,K7]
theorem Zm9(C5:¬sgR r19=0)(C6:¬sgR r19=1):
  Zm 0 (exec Tryz.prog (tab (n+11)) 0 118 (Za 30) big Zz) (Za 30 9) (Yc a2 r5) (QG a2 r5 1 q13):=by
 have C1_:0<r5.length:=by omega
 obtain ⟨EL2,EG2⟩:=gEi E2
 simp only [Zk,Zc] at K3
 have K4:=ZN (p:=r19) B4a
 have C5_:(sgR r19==0)=false:=by simpa using C5
 have C6_:(sgR r19==1)=false:=by simpa using C6
 apply ZB
 simp+decide [Yc,Zb, Tryz.f30,Zz,QG,C1_,EG2,K3,K4,C5_,C6_]
theorem Zo2(C5:sgR r19=0):
  Zj 0 (exec Tryz.prog (tab (n+11)) 0 118 (Za 30) big Zz) (Za 30 (Zo 9)) (Yc a2 r5) (.ret) (ZaW):=by
 have C1_:0<r5.length:=by omega
 obtain ⟨EL2,EG2⟩:=gEi E2
 simp only [Zk,Zc] at K3
 have K4:=ZN (p:=r19) B4a
 have C5_:(sgR r19==0)=true:=by rw [C5];simp
 apply ZA
 simp+decide [Yc,Zb, Tryz.f30,ZaW,Zz,C1_,EG2,K3,K4,C5_]
end
theorem ZoB(C1:¬0<(r5.length:Int)):
  Zj 0 (exec Tryz.prog (tab (n+11)) 0 118 (Za 30) big Zz) (Za 30 (Zo 9)) (Yc a2 r5) (.exit 0) (Zag):=by
 have C1_:¬0<r5.length:=by omega
 apply ZA
 simp+decide [Yc,Zb, Tryz.f30,Zag,Zz,C1_]
end
theorem ZmH{n:Nat}{a2:Int}{i_9b:Nat}{r5:List Zf}{F14:List (Int × Rat)}{q14:Rat}{r20:Rat}{s_9b:Rat}(C1:(i_9b:Int)<(r5.length:Int))(E2:r5[i_9b]?=some (F14,q14))(K3:run (n+10) 45 [Zc (F14,q14),.lit (.int .i64 a2)]=some (Zk r20))(B4a:H r20≤17179869184)(C5:¬sgR r20=0)(C6:sgR r20=1)(B7a:H q14≤17179869184)(B8a:H (-q14)≤17179869184)(B8b:H s_9b≤17179869184)(C9:0<sgR ((-q14)-s_9b))(W10:InI ((i_9b:Int)+1)):
  Zm 0 (exec Tryz.prog (tab (n+11)) 0 118 (Za 30) big Zz) (Za 30 9) (QF a2 r5 i_9b s_9b) (QF a2 r5 (i_9b+1) (-q14)):=by
 have C1_:i_9b<r5.length:=by omega
 obtain ⟨EL2,EG2⟩:=gEi E2
 simp only [Zk,Zc] at K3
 have K4:=ZN (p:=r20) B4a
 have C5_:(sgR r20==0)=false:=by simpa using C5
 have C6_:(sgR r20==1)=true:=by rw [C6];simp
 have K7:=VR (p:=q14) B7a
 have K8:=QU (p:=-q14) (q:=s_9b) B8a B8b
 have W10_:IntKind.i64.wrap ((i_9b:Int)+1)=(i_9b:Int)+1:=Zp W10.1 W10.2
 apply ZB
 simp+decide [QF,Zb, Tryz.f30,Zz,C1,C1_,EG2,K3,K4,C5_,C6_,K7,K8,C9,W10_]
theorem ZkZ{n:Nat}{a2:Int}{i_9b:Nat}{r5:List Zf}{F14:List (Int × Rat)}{q14:Rat}{r20:Rat}{s_9b:Rat}(C1:(i_9b:Int)<(r5.length:Int))(E2:r5[i_9b]?=some (F14,q14))(K3:run (n+10) 45 [Zc (F14,q14),.lit (.int .i64 a2)]=some (Zk r20))(B4a:H r20≤17179869184)(C5:¬sgR r20=0)(C6:sgR r20=1)(B7a:H q14≤17179869184)(B8a:H (-q14)≤17179869184)(B8b:H s_9b≤17179869184)(C9:¬0<sgR ((-q14)-s_9b))(W10:InI ((i_9b:Int)+1)):
  Zm 0 (exec Tryz.prog (tab (n+11)) 0 118 (Za 30) big Zz) (Za 30 9) (QF a2 r5 i_9b s_9b) (QF a2 r5 (i_9b+1) s_9b):=by
 have C1_:i_9b<r5.length:=by omega
 obtain ⟨EL2,EG2⟩:=gEi E2
 simp only [Zk,Zc] at K3
 have K4:=ZN (p:=r20) B4a
 have C5_:(sgR r20==0)=false:=by simpa using C5
 have C6_:(sgR r20==1)=true:=by rw [C6];simp
 have K7:=VR (p:=q14) B7a
 have K8:=QU (p:=-q14) (q:=s_9b) B8a B8b
 have W10_:IntKind.i64.wrap ((i_9b:Int)+1)=(i_9b:Int)+1:=Zp W10.1 W10.2
 apply ZB
 simp+decide [QF,Zb, Tryz.f30,Zz,C1,C1_,EG2,K3,K4,C5_,C6_,K7,K8,C9,W10_]
theorem ZlL{n:Nat}{a2:Int}{i_9b:Nat}{r5:List Zf}{F14:List (Int × Rat)}{q14:Rat}{r20:Rat}{s_9b:Rat}(C1:(i_9b:Int)<(r5.length:Int))(E2:r5[i_9b]?=some (F14,q14))(K3:run (n+10) 45 [Zc (F14,q14),.lit (.int .i64 a2)]=some (Zk r20))(B4a:H r20≤17179869184)(C5:¬sgR r20=0)(C6:¬sgR r20=1)(W7:InI ((i_9b:Int)+1)):
  Zm 0 (exec Tryz.prog (tab (n+11)) 0 118 (Za 30) big Zz) (Za 30 9) (QF a2 r5 i_9b s_9b) (YK a2 r5 (i_9b+1) s_9b q14):=by
 have C1_:i_9b<r5.length:=by omega
 obtain ⟨EL2,EG2⟩:=gEi E2
 simp only [Zk,Zc] at K3
 have K4:=ZN (p:=r20) B4a
 have C5_:(sgR r20==0)=false:=by simpa using C5
 have C6_:(sgR r20==1)=false:=by simpa using C6
 have W7_:IntKind.i64.wrap ((i_9b:Int)+1)=(i_9b:Int)+1:=Zp W7.1 W7.2
 apply ZB
 simp+decide [QF,Zb, Tryz.f30,Zz,YK,C1,C1_,EG2,K3,K4,C5_,C6_,W7_]
theorem ZmT{n:Nat}{a2:Int}{i_9b:Nat}{r5:List Zf}{F14:List (Int × Rat)}{q14:Rat}{r20:Rat}{s_9b:Rat}(C1:(i_9b:Int)<(r5.length:Int))(E2:r5[i_9b]?=some (F14,q14))(K3:run (n+10) 45 [Zc (F14,q14),.lit (.int .i64 a2)]=some (Zk r20))(B4a:H r20≤17179869184)(C5:sgR r20=0):
  Zj 0 (exec Tryz.prog (tab (n+11)) 0 118 (Za 30) big Zz) (Za 30 (Zo 9)) (QF a2 r5 i_9b s_9b) (.ret) (Za3 s_9b):=by
 have C1_:i_9b<r5.length:=by omega
 obtain ⟨EL2,EG2⟩:=gEi E2
 simp only [Zk,Zc] at K3
 have K4:=ZN (p:=r20) B4a
 have C5_:(sgR r20==0)=true:=by rw [C5];simp
 apply ZA
 simp+decide [QF,Zb, Tryz.f30,Za3,Zz,C1,C1_,EG2,K3,K4,C5_]
theorem Zk3{n:Nat}{a2:Int}{i_9b:Nat}{r5:List Zf}{s_9b:Rat}(C1:¬(i_9b:Int)<(r5.length:Int)):
  Zj 0 (exec Tryz.prog (tab (n+11)) 0 118 (Za 30) big Zz) (Za 30 (Zo 9)) (QF a2 r5 i_9b s_9b) (.exit 0) (J7 s_9b):=by
 apply ZA
 simp+decide [QF,Zb, Tryz.f30,J7,Zz,C1]
theorem ZmS{n:Nat}{a2:Int}{i_9c:Nat}{r5:List Zf}{F15:List (Int × Rat)}{q15:Rat}{r21:Rat}{s_9c:Rat}(C1:(i_9c:Int)<(r5.length:Int))(E2:r5[i_9c]?=some (F15,q15))(K3:run (n+10) 45 [Zc (F15,q15),.lit (.int .i64 a2)]=some (Zk r21))(B4a:H r21≤17179869184)(C5:¬sgR r21=0)(C6:sgR r21=1)(B7a:H q15≤17179869184)(W8:InI ((i_9c:Int)+1)):
  Zm 0 (exec Tryz.prog (tab (n+11)) 0 118 (Za 30) big Zz) (Za 30 9) (QG a2 r5 i_9c s_9c) (YK a2 r5 (i_9c+1) (-q15) s_9c):=by
 have C1_:i_9c<r5.length:=by omega
 obtain ⟨EL2,EG2⟩:=gEi E2
 simp only [Zk,Zc] at K3
 have K4:=ZN (p:=r21) B4a
 have C5_:(sgR r21==0)=false:=by simpa using C5
 have C6_:(sgR r21==1)=true:=by rw [C6];simp
 have K7:=VR (p:=q15) B7a
 have W8_:IntKind.i64.wrap ((i_9c:Int)+1)=(i_9c:Int)+1:=Zp W8.1 W8.2
 apply ZB
 simp+decide [QG,Zb, Tryz.f30,Zz,YK,C1,C1_,EG2,K3,K4,C5_,C6_,K7,W8_]
theorem Zk9{n:Nat}{a2:Int}{i_9c:Nat}{r5:List Zf}{F15:List (Int × Rat)}{q15:Rat}{r21:Rat}{s_9c:Rat}(C1:(i_9c:Int)<(r5.length:Int))(E2:r5[i_9c]?=some (F15,q15))(K3:run (n+10) 45 [Zc (F15,q15),.lit (.int .i64 a2)]=some (Zk r21))(B4a:H r21≤17179869184)(C5:¬sgR r21=0)(C6:¬sgR r21=1)(B7a:H q15≤17179869184)(B7b:H s_9c≤17179869184)(C8:sgR (q15-s_9c)<0)(W9:InI ((i_9c:Int)+1)):
  Zm 0 (exec Tryz.prog (tab (n+11)) 0 118 (Za 30) big Zz) (Za 30 9) (QG a2 r5 i_9c s_9c) (QG a2 r5 (i_9c+1) q15):=by
 have C1_:i_9c<r5.length:=by omega
 obtain ⟨EL2,EG2⟩:=gEi E2
 simp only [Zk,Zc] at K3
 have K4:=ZN (p:=r21) B4a
 have C5_:(sgR r21==0)=false:=by simpa using C5
 have C6_:(sgR r21==1)=false:=by simpa using C6
 have K7:=QU (p:=q15) (q:=s_9c) B7a B7b
 have W9_:IntKind.i64.wrap ((i_9c:Int)+1)=(i_9c:Int)+1:=Zp W9.1 W9.2
 apply ZB
 simp+decide [QG,Zb, Tryz.f30,Zz,C1,C1_,EG2,K3,K4,C5_,C6_,K7,C8,W9_]
theorem Zk2{n:Nat}{a2:Int}{i_9c:Nat}{r5:List Zf}{F15:List (Int × Rat)}{q15:Rat}{r21:Rat}{s_9c:Rat}(C1:(i_9c:Int)<(r5.length:Int))(E2:r5[i_9c]?=some (F15,q15))(K3:run (n+10) 45 [Zc (F15,q15),.lit (.int .i64 a2)]=some (Zk r21))(B4a:H r21≤17179869184)(C5:¬sgR r21=0)(C6:¬sgR r21=1)(B7a:H q15≤17179869184)(B7b:H s_9c≤17179869184)(C8:¬sgR (q15-s_9c)<0)(W9:InI ((i_9c:Int)+1)):
  Zm 0 (exec Tryz.prog (tab (n+11)) 0 118 (Za 30) big Zz) (Za 30 9) (QG a2 r5 i_9c s_9c) (QG a2 r5 (i_9c+1) s_9c):=by
 have C1_:i_9c<r5.length:=by omega
 obtain ⟨EL2,EG2⟩:=gEi E2
 simp only [Zk,Zc] at K3
 have K4:=ZN (p:=r21) B4a
 have C5_:(sgR r21==0)=false:=by simpa using C5
 have C6_:(sgR r21==1)=false:=by simpa using C6
 have K7:=QU (p:=q15) (q:=s_9c) B7a B7b
 have W9_:IntKind.i64.wrap ((i_9c:Int)+1)=(i_9c:Int)+1:=Zp W9.1 W9.2
 apply ZB
 simp+decide [QG,Zb, Tryz.f30,Zz,C1,C1_,EG2,K3,K4,C5_,C6_,K7,C8,W9_]
theorem ZmI{n:Nat}{a2:Int}{i_9c:Nat}{r5:List Zf}{F15:List (Int × Rat)}{q15:Rat}{r21:Rat}{s_9c:Rat}(C1:(i_9c:Int)<(r5.length:Int))(E2:r5[i_9c]?=some (F15,q15))(K3:run (n+10) 45 [Zc (F15,q15),.lit (.int .i64 a2)]=some (Zk r21))(B4a:H r21≤17179869184)(C5:sgR r21=0):
  Zj 0 (exec Tryz.prog (tab (n+11)) 0 118 (Za 30) big Zz) (Za 30 (Zo 9)) (QG a2 r5 i_9c s_9c) (.ret) (Zav s_9c):=by
 have C1_:i_9c<r5.length:=by omega
 obtain ⟨EL2,EG2⟩:=gEi E2
 simp only [Zk,Zc] at K3
 have K4:=ZN (p:=r21) B4a
 have C5_:(sgR r21==0)=true:=by rw [C5];simp
 apply ZA
 simp+decide [QG,Zb, Tryz.f30,Zav,Zz,C1,C1_,EG2,K3,K4,C5_]
theorem ZkS{n:Nat}{a2:Int}{i_9c:Nat}{r5:List Zf}{s_9c:Rat}(C1:¬(i_9c:Int)<(r5.length:Int)):
  Zj 0 (exec Tryz.prog (tab (n+11)) 0 118 (Za 30) big Zz) (Za 30 (Zo 9)) (QG a2 r5 i_9c s_9c) (.exit 0) (Zaj s_9c):=by
 apply ZA
 simp+decide [QG,Zb, Tryz.f30,Zaj,Zz,C1]
theorem Zlk{n:Nat}{a2:Int}{i_9d:Nat}{r5:List Zf}{F16:List (Int × Rat)}{q16:Rat}{r22:Rat}{s_9d:Rat}{s2_9d:Rat}(C1:(i_9d:Int)<(r5.length:Int))(E2:r5[i_9d]?=some (F16,q16))(K3:run (n+10) 45 [Zc (F16,q16),.lit (.int .i64 a2)]=some (Zk r22))(B4a:H r22≤17179869184)(C5:¬sgR r22=0)(C6:sgR r22=1)(B7a:H q16≤17179869184)(B8a:H (-q16)≤17179869184)(B8b:H s_9d≤17179869184)(C9:0<sgR ((-q16)-s_9d))(W10:InI ((i_9d:Int)+1)):
  Zm 0 (exec Tryz.prog (tab (n+11)) 0 118 (Za 30) big Zz) (Za 30 9) (YK a2 r5 i_9d s_9d s2_9d) (YK a2 r5 (i_9d+1) (-q16) s2_9d):=by
 have C1_:i_9d<r5.length:=by omega
 obtain ⟨EL2,EG2⟩:=gEi E2
 simp only [Zk,Zc] at K3
 have K4:=ZN (p:=r22) B4a
 have C5_:(sgR r22==0)=false:=by simpa using C5
 have C6_:(sgR r22==1)=true:=by rw [C6];simp
 have K7:=VR (p:=q16) B7a
 have K8:=QU (p:=-q16) (q:=s_9d) B8a B8b
 have W10_:IntKind.i64.wrap ((i_9d:Int)+1)=(i_9d:Int)+1:=Zp W10.1 W10.2
 apply ZB
 simp+decide [YK,Zb, Tryz.f30,Zz,C1,C1_,EG2,K3,K4,C5_,C6_,K7,K8,C9,W10_]
theorem ZmN{n:Nat}{a2:Int}{i_9d:Nat}{r5:List Zf}{F16:List (Int × Rat)}{q16:Rat}{r22:Rat}{s_9d:Rat}{s2_9d:Rat}(C1:(i_9d:Int)<(r5.length:Int))(E2:r5[i_9d]?=some (F16,q16))(K3:run (n+10) 45 [Zc (F16,q16),.lit (.int .i64 a2)]=some (Zk r22))(B4a:H r22≤17179869184)(C5:¬sgR r22=0)(C6:sgR r22=1)(B7a:H q16≤17179869184)(B8a:H (-q16)≤17179869184)(B8b:H s_9d≤17179869184)(C9:¬0<sgR ((-q16)-s_9d))(W10:InI ((i_9d:Int)+1)):
  Zm 0 (exec Tryz.prog (tab (n+11)) 0 118 (Za 30) big Zz) (Za 30 9) (YK a2 r5 i_9d s_9d s2_9d) (YK a2 r5 (i_9d+1) s_9d s2_9d):=by
 have C1_:i_9d<r5.length:=by omega
 obtain ⟨EL2,EG2⟩:=gEi E2
 simp only [Zk,Zc] at K3
 have K4:=ZN (p:=r22) B4a
 have C5_:(sgR r22==0)=false:=by simpa using C5
 have C6_:(sgR r22==1)=true:=by rw [C6];simp
 have K7:=VR (p:=q16) B7a
 have K8:=QU (p:=-q16) (q:=s_9d) B8a B8b
 have W10_:IntKind.i64.wrap ((i_9d:Int)+1)=(i_9d:Int)+1:=Zp W10.1 W10.2
 apply ZB
 simp+decide [YK,Zb, Tryz.f30,Zz,C1,C1_,EG2,K3,K4,C5_,C6_,K7,K8,C9,W10_]
theorem Zlv{n:Nat}{a2:Int}{i_9d:Nat}{r5:List Zf}{F16:List (Int × Rat)}{q16:Rat}{r22:Rat}{s2_9d:Rat}{s_9d:Rat}(C1:(i_9d:Int)<(r5.length:Int))(E2:r5[i_9d]?=some (F16,q16))(K3:run (n+10) 45 [Zc (F16,q16),.lit (.int .i64 a2)]=some (Zk r22))(B4a:H r22≤17179869184)(C5:¬sgR r22=0)(C6:¬sgR r22=1)(B7a:H q16≤17179869184)(B7b:H s2_9d≤17179869184)(C8:sgR (q16-s2_9d)<0)(W9:InI ((i_9d:Int)+1)):
  Zm 0 (exec Tryz.prog (tab (n+11)) 0 118 (Za 30) big Zz) (Za 30 9) (YK a2 r5 i_9d s_9d s2_9d) (YK a2 r5 (i_9d+1) s_9d q16):=by
 have C1_:i_9d<r5.length:=by omega
 obtain ⟨EL2,EG2⟩:=gEi E2
 simp only [Zk,Zc] at K3
 have K4:=ZN (p:=r22) B4a
 have C5_:(sgR r22==0)=false:=by simpa using C5
 have C6_:(sgR r22==1)=false:=by simpa using C6
 have K7:=QU (p:=q16) (q:=s2_9d) B7a B7b
 have W9_:IntKind.i64.wrap ((i_9d:Int)+1)=(i_9d:Int)+1:=Zp W9.1 W9.2
 apply ZB
 simp+decide [YK,Zb, Tryz.f30,Zz,C1,C1_,EG2,K3,K4,C5_,C6_,K7,C8,W9_]
theorem ZmM{n:Nat}{a2:Int}{i_9d:Nat}{r5:List Zf}{F16:List (Int × Rat)}{q16:Rat}{r22:Rat}{s2_9d:Rat}{s_9d:Rat}(C1:(i_9d:Int)<(r5.length:Int))(E2:r5[i_9d]?=some (F16,q16))(K3:run (n+10) 45 [Zc (F16,q16),.lit (.int .i64 a2)]=some (Zk r22))(B4a:H r22≤17179869184)(C5:¬sgR r22=0)(C6:¬sgR r22=1)(B7a:H q16≤17179869184)(B7b:H s2_9d≤17179869184)(C8:¬sgR (q16-s2_9d)<0)(W9:InI ((i_9d:Int)+1)):
  Zm 0 (exec Tryz.prog (tab (n+11)) 0 118 (Za 30) big Zz) (Za 30 9) (YK a2 r5 i_9d s_9d s2_9d) (YK a2 r5 (i_9d+1) s_9d s2_9d):=by
 have C1_:i_9d<r5.length:=by omega
 obtain ⟨EL2,EG2⟩:=gEi E2
 simp only [Zk,Zc] at K3
 have K4:=ZN (p:=r22) B4a
 have C5_:(sgR r22==0)=false:=by simpa using C5
 have C6_:(sgR r22==1)=false:=by simpa using C6
 have K7:=QU (p:=q16) (q:=s2_9d) B7a B7b
 have W9_:IntKind.i64.wrap ((i_9d:Int)+1)=(i_9d:Int)+1:=Zp W9.1 W9.2
 apply ZB
 simp+decide [YK,Zb, Tryz.f30,Zz,C1,C1_,EG2,K3,K4,C5_,C6_,K7,C8,W9_]
theorem Zll{n:Nat}{a2:Int}{i_9d:Nat}{r5:List Zf}{F16:List (Int × Rat)}{q16:Rat}{r22:Rat}{s_9d:Rat}{s2_9d:Rat}(C1:(i_9d:Int)<(r5.length:Int))(E2:r5[i_9d]?=some (F16,q16))(K3:run (n+10) 45 [Zc (F16,q16),.lit (.int .i64 a2)]=some (Zk r22))(B4a:H r22≤17179869184)(C5:sgR r22=0):
  Zj 0 (exec Tryz.prog (tab (n+11)) 0 118 (Za 30) big Zz) (Za 30 (Zo 9)) (YK a2 r5 i_9d s_9d s2_9d) (.ret) (J6 s_9d s2_9d):=by
 have C1_:i_9d<r5.length:=by omega
 obtain ⟨EL2,EG2⟩:=gEi E2
 simp only [Zk,Zc] at K3
 have K4:=ZN (p:=r22) B4a
 have C5_:(sgR r22==0)=true:=by rw [C5];simp
 apply ZA
 simp+decide [YK,Zb, Tryz.f30,J6,Zz,C1,C1_,EG2,K3,K4,C5_]
theorem ZlW{n:Nat}{a2:Int}{i_9d:Nat}{r5:List Zf}{s_9d:Rat}{s2_9d:Rat}(C1:¬(i_9d:Int)<(r5.length:Int)):
  Zj 0 (exec Tryz.prog (tab (n+11)) 0 118 (Za 30) big Zz) (Za 30 (Zo 9)) (YK a2 r5 i_9d s_9d s2_9d) (.exit 0) (Jf s_9d s2_9d):=by
 apply ZA
 simp+decide [YK,Zb, Tryz.f30,Jf,Zz,C1]
section
variable {a1 : List Zf} {a0 : Zf} {n : Nat} {a2 : Int} {r : Bool} {r2 : Bool} {r5 : List Zf} {r6 : Int} {r4 : Zf} {r3 : Zf} {s_9b : Rat} {s_9c : Rat} {s2_9d : Rat} {s_9d : Rat}
theorem ZxT(C1:a2<0):
  run (n+11) 30 [Zc a0,.sl 4 (a1.map Zh),.lit (.int .i64 a2)]=some (.tup [.lit (.int .i64 0),.agg [.lit (.bool false),.sl 1 [],.sl 1 []],.lit (.int .i64 1)]):=by
 unfold run fnP
 simp+decide [Tryz.f30,C1]
section
variable(C1:¬a2<0)(K2:run (n+10) 44 [.sl 4 (a1.map Zh),.lit (.int .i64 a2)]=some (.lit (.bool r)))
include C1 K2
theorem ZxA(C3:r=false):
  run (n+11) 30 [Zc a0,.sl 4 (a1.map Zh),.lit (.int .i64 a2)]=some (.tup [.lit (.int .i64 0),.agg [.lit (.bool false),.sl 1 [],.sl 1 []],.lit (.int .i64 1)]):=by
 unfold run fnP
 simp+decide [Tryz.f30,C1,K2,C3]
section
variable(C3:r=true)(K4:run (n+10) 67 [Zc a0,.lit (.int .i64 a2)]=some (.lit (.bool r2)))
include C3 K4
theorem Zvz(C5:r2=false):
  run (n+11) 30 [Zc a0,.sl 4 (a1.map Zh),.lit (.int .i64 a2)]=some (.tup [.lit (.int .i64 0),.agg [.lit (.bool false),.sl 1 [],.sl 1 []],.lit (.int .i64 1)]):=by
 simp only [Zc] at K4
 unfold run fnP
 simp+decide [Tryz.f30,C1,K2,C3,K4,C5]
section
variable(C5:r2=true)(K7:run (n+10) 68 [.agg [.sl 4 [[.lit (.int .i64 a2),.lit (.bool (Ze (ofQ 1)).s),Zd (Ze (ofQ 1)).l1,Zd (Ze (ofQ 1)).l2]],.lit (.bool false),.sl 1 [],.sl 1 []],Zc a0]=some (Zc r3))(K9:run (n+10) 37 [Zc r3,Zk (ofQ (-1))]=some (Zc r4))(M10:a1.length+2≤100000000)(K11:run (n+10) 58 [.sl 4 (([r3,r4]++a1).map Zh),.lit (.int .i64 a2)]=some (.tup [.sl 4 (r5.map Zh),.lit (.int .i64 r6)]))(C12:r6=0)
include C5 K7 K9 M10 K11 C12
theorem Zxp(L13:Zl Tryz.prog (tab (n+11)) 0 118 (Za 30) 9 Zz (Yc a2 r5)=some (.ret,ZaW)):
  run (n+11) 30 [Zc a0,.sl 4 (a1.map Zh),.lit (.int .i64 a2)]=some (.tup [.lit (.int .i64 2),.agg [.lit (.bool false),.sl 1 [],.sl 1 []],.lit (.int .i64 0)]):=by
 simp only [Zc] at K4
 have K6:=YD (z:=1) (by omega) (by omega)
 simp only [Zc] at K7
 have K8:=YD (z:=(-1)) (by omega) (by omega)
 simp only [Zk,Zc] at K9
 have M10_:∀b,b≤10000→ZG (a1.length+2) b=true:=fun b hb=>Zq M10 hb
 have M10_r:2+(a1.length)=a1.length+2:=Nat.add_comm _ _
 simp only [List.cons_append,List.nil_append,List.map_cons,Zh] at K11
 have C12_n:(r6 !=0)=false:=by rw [C12];simp
 unfold run fnP
 simp+decide [Tryz.f30,C1,K2,C3,K4,C5,K6,K7,K8,K9,M10_,M10_r,K11,C12_n]
 rw [Zi (C':=Zz) (e:=(Yc a2 r5)) ?_ ?_,L13]
 rotate_left
 ·kernel_rfl
 ·simp+decide [Yc]
 simp+decide [ZaW]
theorem ZwE(L13:Zl Tryz.prog (tab (n+11)) 0 118 (Za 30) 9 Zz (Yc a2 r5)=some (.exit 0,Zag)):
  run (n+11) 30 [Zc a0,.sl 4 (a1.map Zh),.lit (.int .i64 a2)]=some (.tup [.lit (.int .i64 3),.agg [.lit (.bool false),.sl 1 [],.sl 1 []],.lit (.int .i64 0)]):=by
 simp only [Zc] at K4
 have K6:=YD (z:=1) (by omega) (by omega)
 simp only [Zc] at K7
 have K8:=YD (z:=(-1)) (by omega) (by omega)
 simp only [Zk,Zc] at K9
 have M10_:∀b,b≤10000→ZG (a1.length+2) b=true:=fun b hb=>Zq M10 hb
 have M10_r:2+(a1.length)=a1.length+2:=Nat.add_comm _ _
 simp only [List.cons_append,List.nil_append,List.map_cons,Zh] at K11
 have C12_n:(r6 !=0)=false:=by rw [C12];simp
 unfold run fnP
 simp+decide [Tryz.f30,C1,K2,C3,K4,C5,K6,K7,K8,K9,M10_,M10_r,K11,C12_n]
 rw [Zi (C':=Zz) (e:=(Yc a2 r5)) ?_ ?_,L13]
 rotate_left
 ·kernel_rfl
 ·simp+decide [Yc]
 simp+decide [Zag]
theorem Zv8(L13:Zl Tryz.prog (tab (n+11)) 0 118 (Za 30) 9 Zz (Yc a2 r5)=some (.ret,Za3 s_9b)):
  run (n+11) 30 [Zc a0,.sl 4 (a1.map Zh),.lit (.int .i64 a2)]=some (.tup [.lit (.int .i64 2),.agg [.lit (.bool false),.sl 1 [],.sl 1 []],.lit (.int .i64 0)]):=by
 simp only [Zc] at K4
 have K6:=YD (z:=1) (by omega) (by omega)
 simp only [Zc] at K7
 have K8:=YD (z:=(-1)) (by omega) (by omega)
 simp only [Zk,Zc] at K9
 have M10_:∀b,b≤10000→ZG (a1.length+2) b=true:=fun b hb=>Zq M10 hb
 have M10_r:2+(a1.length)=a1.length+2:=Nat.add_comm _ _
 simp only [List.cons_append,List.nil_append,List.map_cons,Zh] at K11
 have C12_n:(r6 !=0)=false:=by rw [C12];simp
 unfold run fnP
 simp+decide [Tryz.f30,C1,K2,C3,K4,C5,K6,K7,K8,K9,M10_,M10_r,K11,C12_n]
 rw [Zi (C':=Zz) (e:=(Yc a2 r5)) ?_ ?_,L13]
 rotate_left
 ·kernel_rfl
 ·simp+decide [Yc]
 simp+decide [Za3]
theorem Zvt(L13:Zl Tryz.prog (tab (n+11)) 0 118 (Za 30) 9 Zz (Yc a2 r5)=some (.exit 0,J7 s_9b)):
  run (n+11) 30 [Zc a0,.sl 4 (a1.map Zh),.lit (.int .i64 a2)]=some (.tup [.lit (.int .i64 1),Zk s_9b,.lit (.int .i64 0)]):=by
 simp only [Zc] at K4
 have K6:=YD (z:=1) (by omega) (by omega)
 simp only [Zc] at K7
 have K8:=YD (z:=(-1)) (by omega) (by omega)
 simp only [Zk,Zc] at K9
 have M10_:∀b,b≤10000→ZG (a1.length+2) b=true:=fun b hb=>Zq M10 hb
 have M10_r:2+(a1.length)=a1.length+2:=Nat.add_comm _ _
 simp only [List.cons_append,List.nil_append,List.map_cons,Zh] at K11
 have C12_n:(r6 !=0)=false:=by rw [C12];simp
 unfold run fnP
 simp+decide [Tryz.f30,C1,K2,C3,K4,C5,K6,K7,K8,K9,M10_,M10_r,K11,C12_n]
 rw [Zi (C':=Zz) (e:=(Yc a2 r5)) ?_ ?_,L13]
 rotate_left
 ·kernel_rfl
 ·simp+decide [Yc]
 simp+decide [J7]
theorem Zwv(L13:Zl Tryz.prog (tab (n+11)) 0 118 (Za 30) 9 Zz (Yc a2 r5)=some (.ret,Zav s_9c)):
  run (n+11) 30 [Zc a0,.sl 4 (a1.map Zh),.lit (.int .i64 a2)]=some (.tup [.lit (.int .i64 2),.agg [.lit (.bool false),.sl 1 [],.sl 1 []],.lit (.int .i64 0)]):=by
 simp only [Zc] at K4
 have K6:=YD (z:=1) (by omega) (by omega)
 simp only [Zc] at K7
 have K8:=YD (z:=(-1)) (by omega) (by omega)
 simp only [Zk,Zc] at K9
 have M10_:∀b,b≤10000→ZG (a1.length+2) b=true:=fun b hb=>Zq M10 hb
 have M10_r:2+(a1.length)=a1.length+2:=Nat.add_comm _ _
 simp only [List.cons_append,List.nil_append,List.map_cons,Zh] at K11
 have C12_n:(r6 !=0)=false:=by rw [C12];simp
 unfold run fnP
 simp+decide [Tryz.f30,C1,K2,C3,K4,C5,K6,K7,K8,K9,M10_,M10_r,K11,C12_n]
 rw [Zi (C':=Zz) (e:=(Yc a2 r5)) ?_ ?_,L13]
 rotate_left
 ·kernel_rfl
 ·simp+decide [Yc]
 simp+decide [Zav]
theorem ZsQ(L13:Zl Tryz.prog (tab (n+11)) 0 118 (Za 30) 9 Zz (Yc a2 r5)=some (.exit 0,Zaj s_9c)):
  run (n+11) 30 [Zc a0,.sl 4 (a1.map Zh),.lit (.int .i64 a2)]=some (.tup [.lit (.int .i64 3),.agg [.lit (.bool false),.sl 1 [],.sl 1 []],.lit (.int .i64 0)]):=by
 simp only [Zc] at K4
 have K6:=YD (z:=1) (by omega) (by omega)
 simp only [Zc] at K7
 have K8:=YD (z:=(-1)) (by omega) (by omega)
 simp only [Zk,Zc] at K9
 have M10_:∀b,b≤10000→ZG (a1.length+2) b=true:=fun b hb=>Zq M10 hb
 have M10_r:2+(a1.length)=a1.length+2:=Nat.add_comm _ _
 simp only [List.cons_append,List.nil_append,List.map_cons,Zh] at K11
 have C12_n:(r6 !=0)=false:=by rw [C12];simp
 unfold run fnP
 simp+decide [Tryz.f30,C1,K2,C3,K4,C5,K6,K7,K8,K9,M10_,M10_r,K11,C12_n]
 rw [Zi (C':=Zz) (e:=(Yc a2 r5)) ?_ ?_,L13]
 rotate_left
 ·kernel_rfl
 ·simp+decide [Yc]
 simp+decide [Zaj]
theorem Ztn(L13:Zl Tryz.prog (tab (n+11)) 0 118 (Za 30) 9 Zz (Yc a2 r5)=some (.ret,J6 s_9d s2_9d)):
  run (n+11) 30 [Zc a0,.sl 4 (a1.map Zh),.lit (.int .i64 a2)]=some (.tup [.lit (.int .i64 2),.agg [.lit (.bool false),.sl 1 [],.sl 1 []],.lit (.int .i64 0)]):=by
 simp only [Zc] at K4
 have K6:=YD (z:=1) (by omega) (by omega)
 simp only [Zc] at K7
 have K8:=YD (z:=(-1)) (by omega) (by omega)
 simp only [Zk,Zc] at K9
 have M10_:∀b,b≤10000→ZG (a1.length+2) b=true:=fun b hb=>Zq M10 hb
 have M10_r:2+(a1.length)=a1.length+2:=Nat.add_comm _ _
 simp only [List.cons_append,List.nil_append,List.map_cons,Zh] at K11
 have C12_n:(r6 !=0)=false:=by rw [C12];simp
 unfold run fnP
 simp+decide [Tryz.f30,C1,K2,C3,K4,C5,K6,K7,K8,K9,M10_,M10_r,K11,C12_n]
 rw [Zi (C':=Zz) (e:=(Yc a2 r5)) ?_ ?_,L13]
 rotate_left
 ·kernel_rfl
 ·simp+decide [Yc]
 simp+decide [J6]
section
variable(L13:Zl Tryz.prog (tab (n+11)) 0 118 (Za 30) 9 Zz (Yc a2 r5)=some (.exit 0,Jf s_9d s2_9d))(B14a:H s_9d≤17179869184)(B14b:H s2_9d≤17179869184)
include L13 B14a B14b
theorem Ztm(C15:0<sgR (s_9d-s2_9d)):
  run (n+11) 30 [Zc a0,.sl 4 (a1.map Zh),.lit (.int .i64 a2)]=some (.tup [.lit (.int .i64 2),.agg [.lit (.bool false),.sl 1 [],.sl 1 []],.lit (.int .i64 0)]):=by
 simp only [Zc] at K4
 have K6:=YD (z:=1) (by omega) (by omega)
 simp only [Zc] at K7
 have K8:=YD (z:=(-1)) (by omega) (by omega)
 simp only [Zk,Zc] at K9
 have M10_:∀b,b≤10000→ZG (a1.length+2) b=true:=fun b hb=>Zq M10 hb
 have M10_r:2+(a1.length)=a1.length+2:=Nat.add_comm _ _
 simp only [List.cons_append,List.nil_append,List.map_cons,Zh] at K11
 have C12_n:(r6 !=0)=false:=by rw [C12];simp
 have K14:=QU (p:=s_9d) (q:=s2_9d) B14a B14b
 unfold run fnP
 simp+decide [Tryz.f30,C1,K2,C3,K4,C5,K6,K7,K8,K9,M10_,M10_r,K11,C12_n]
 rw [Zi (C':=Zz) (e:=(Yc a2 r5)) ?_ ?_,L13]
 rotate_left
 ·kernel_rfl
 ·simp+decide [Yc]
 simp+decide [Jf,K14,C15]
theorem ZtO(C15:¬0<sgR (s_9d-s2_9d)):
  run (n+11) 30 [Zc a0,.sl 4 (a1.map Zh),.lit (.int .i64 a2)]=some (.tup [.lit (.int .i64 1),Zk s_9d,.lit (.int .i64 0)]):=by
 simp only [Zc] at K4
 have K6:=YD (z:=1) (by omega) (by omega)
 simp only [Zc] at K7
 have K8:=YD (z:=(-1)) (by omega) (by omega)
 simp only [Zk,Zc] at K9
 have M10_:∀b,b≤10000→ZG (a1.length+2) b=true:=fun b hb=>Zq M10 hb
 have M10_r:2+(a1.length)=a1.length+2:=Nat.add_comm _ _
 simp only [List.cons_append,List.nil_append,List.map_cons,Zh] at K11
 have C12_n:(r6 !=0)=false:=by rw [C12];simp
 have K14:=QU (p:=s_9d) (q:=s2_9d) B14a B14b
 unfold run fnP
 simp+decide [Tryz.f30,C1,K2,C3,K4,C5,K6,K7,K8,K9,M10_,M10_r,K11,C12_n]
 rw [Zi (C':=Zz) (e:=(Yc a2 r5)) ?_ ?_,L13]
 rotate_left
 ·kernel_rfl
 ·simp+decide [Yc]
 simp+decide [Jf,K14,C15]
end
end
end
end
end
noncomputable def YQ:Code:=(Zb (ZR Tryz.f31)).getD 0 .skip
noncomputable def Qf:Code:=(Zb (ZR Tryz.f31)).getD 1 .skip
def Yd(a2:Int)(r5:List Zf)(d_10:Bool)(i_10:Nat)(s_10:Rat):St:=
 ⟨[(2,.lit (.int .i64 a2)),(7,.ptr 0 0),(10,.sl 4 (r5.map Zh)),(12,.lit (.bool d_10)),(13,.ptr 1 0),(14,.lit (.int .i64 (i_10:Int)))],
  [(0,some (.box 26 [.lit (.bool false),.nl 1,.nl 1] false)),
   (1,some (.box 26 [.lit (.bool (Ze s_10).s),Zd (Ze s_10).l1,Zd (Ze s_10).l2] false))],2⟩
def YA(a2:Int)(r5:List Zf)(d_10:Bool)(i_21:Nat)(s_10:Rat):St:=
 ⟨[(2,.lit (.int .i64 a2)),(7,.ptr 0 0),(10,.sl 4 (r5.map Zh)),(12,.lit (.bool d_10)),(13,.ptr 1 0),(16,.lit (.int .i64 (i_21:Int)))],
  [(0,some (.box 26 [.lit (.bool false),.nl 1,.nl 1] false)),
   (1,some (.box 26 [.lit (.bool (Ze s_10).s),Zd (Ze s_10).l1,Zd (Ze s_10).l2] false))],2⟩
def Un(a2:Int)(r5:List Zf)(d_10:Bool)(s_10:Rat):St:=
 ⟨[(2,.lit (.int .i64 a2)),(6,.lit (.int .i64 2)),(7,.ptr 0 0),(8,.lit (.int .i64 0)),(10,.sl 4 (r5.map Zh)),(12,.lit (.bool d_10)),(13,.ptr 1 0)],
  [(0,some (.box 26 [.lit (.bool false),.nl 1,.nl 1] false)),
   (1,some (.box 26 [.lit (.bool (Ze s_10).s),Zd (Ze s_10).l1,Zd (Ze s_10).l2] false))],2⟩
def W0(a2:Int)(r5:List Zf)(d_10:Bool)(s_10:Rat):St:=
 ⟨[(2,.lit (.int .i64 a2)),(6,.any),(7,.ptr 0 0),(8,.any),(10,.sl 4 (r5.map Zh)),(12,.lit (.bool d_10)),(13,.ptr 1 0)],
  [(0,some (.box 26 [.lit (.bool false),.nl 1,.nl 1] false)),
   (1,some (.box 26 [.lit (.bool (Ze s_10).s),Zd (Ze s_10).l1,Zd (Ze s_10).l2] false))],2⟩
def Ud(d_10:Bool)(s_10:Rat):St:=
 ⟨[(6,.lit (.int .i64 2)),(7,.ptr 0 0),(8,.lit (.int .i64 0)),(12,.lit (.bool d_10)),(13,.ptr 1 0)],
  [(0,some (.box 26 [.lit (.bool false),.nl 1,.nl 1] false)),
   (1,some (.box 26 [.lit (.bool (Ze s_10).s),Zd (Ze s_10).l1,Zd (Ze s_10).l2] false))],2⟩
def VG(d_10:Bool)(s_10:Rat):St:=
 ⟨[(6,.any),(7,.ptr 0 0),(8,.any),(12,.lit (.bool d_10)),(13,.ptr 1 0)],
  [(0,some (.box 26 [.lit (.bool false),.nl 1,.nl 1] false)),
   (1,some (.box 26 [.lit (.bool (Ze s_10).s),Zd (Ze s_10).l1,Zd (Ze s_10).l2] false))],2⟩
section
variable{r5:List Zf}{i_10:Nat}{a2:Int}{r9:Rat}{s_10:Rat}{q3:Rat}{d_10:Bool}{F3:List (Int × Rat)}{n:Nat}{F6:List (Int × Rat)}{q6:Rat}{i_21:Nat}{r12:Rat}{a1:List Zf}{r:Bool}{a0:Zf}{r6:Int}{r4:Zf}{r2:Zf}{r3:Zf}
section
variable(C1:(i_10:Int)<(r5.length:Int))(E2:r5[i_10]?=some (F3,q3))(K3:run (n+10) 22 [Zc (F3,q3),.lit (.int .i64 a2)]=some (Zk r9))(B4a:H r9≤17179869184)
include C1 E2 K3 B4a
theorem Zmd(C5:¬sgR r9=0)(C6:sgR r9=1)(B7a:H q3≤17179869184)(C8:d_10=false)(W9:InI ((i_10:Int)+1)):
  Zm 0 (exec Tryz.prog (tab (n+11)) 0 110 (Za 31) big YQ) (Za 31 10) (Yd a2 r5 d_10 i_10 s_10) (Yd a2 r5 true (i_10+1) (-q3)):=by
 have C1_:i_10<r5.length:=by omega
 obtain ⟨EL2,EG2⟩:=gEi E2
 simp only [Zk,Zc] at K3
 have K4:=ZN (p:=r9) B4a
 have C5_:(sgR r9==0)=false:=by simpa using C5
 have C6_:(sgR r9==1)=true:=by rw [C6];simp
 have K7:=VR (p:=q3) B7a
 have W9_:IntKind.i64.wrap ((i_10:Int)+1)=(i_10:Int)+1:=Zp W9.1 W9.2
 try simp only [Zd] at K3
 try simp only [Zd] at K4
 try simp only [Zd] at K7
 apply ZB
 simp+decide [Yd,Zb, Tryz.f31,YQ,Zd,C1,C1_,EG2,K3,K4,C5_,C6_,K7,C8,W9_]
theorem ZkA(C5:¬sgR r9=0)(C6:sgR r9=1)(B7a:H q3≤17179869184)(C8:d_10=true)(B9a:H (-q3)≤17179869184)(B9b:H s_10≤17179869184)(C10:0<sgR ((-q3)-s_10))(W11:InI ((i_10:Int)+1)):
  Zm 0 (exec Tryz.prog (tab (n+11)) 0 110 (Za 31) big YQ) (Za 31 10) (Yd a2 r5 d_10 i_10 s_10) (Yd a2 r5 true (i_10+1) (-q3)):=by
 have C1_:i_10<r5.length:=by omega
 obtain ⟨EL2,EG2⟩:=gEi E2
 simp only [Zk,Zc] at K3
 have K4:=ZN (p:=r9) B4a
 have C5_:(sgR r9==0)=false:=by simpa using C5
 have C6_:(sgR r9==1)=true:=by rw [C6];simp
 have K7:=VR (p:=q3) B7a
 have K9:=QU (p:=-q3) (q:=s_10) B9a B9b
 have W11_:IntKind.i64.wrap ((i_10:Int)+1)=(i_10:Int)+1:=Zp W11.1 W11.2
 try simp only [Zd] at K3
 try simp only [Zd] at K4
 try simp only [Zd] at K7
 try simp only [Zd] at K9
 apply ZB
 simp+decide [Yd,Zb, Tryz.f31,YQ,Zd,C1,C1_,EG2,K3,K4,C5_,C6_,K7,C8,K9,C10,W11_]
theorem ZlP(C5:¬sgR r9=0)(C6:sgR r9=1)(B7a:H q3≤17179869184)(C8:d_10=true)(B9a:H (-q3)≤17179869184)(B9b:H s_10≤17179869184)(C10:¬0<sgR ((-q3)-s_10))(W11:InI ((i_10:Int)+1)):
  Zm 0 (exec Tryz.prog (tab (n+11)) 0 110 (Za 31) big YQ) (Za 31 10) (Yd a2 r5 d_10 i_10 s_10) (Yd a2 r5 true (i_10+1) s_10):=by
 have C1_:i_10<r5.length:=by omega
 obtain ⟨EL2,EG2⟩:=gEi E2
 simp only [Zk,Zc] at K3
 have K4:=ZN (p:=r9) B4a
 have C5_:(sgR r9==0)=false:=by simpa using C5
 have C6_:(sgR r9==1)=true:=by rw [C6];simp
 have K7:=VR (p:=q3) B7a
 have K9:=QU (p:=-q3) (q:=s_10) B9a B9b
 have W11_:IntKind.i64.wrap ((i_10:Int)+1)=(i_10:Int)+1:=Zp W11.1 W11.2
 try simp only [Zd] at K3
 try simp only [Zd] at K4
 try simp only [Zd] at K7
 try simp only [Zd] at K9
 apply ZB
 simp+decide [Yd,Zb, Tryz.f31,YQ,Zd,C1,C1_,EG2,K3,K4,C5_,C6_,K7,C8,K9,C10,W11_]
theorem Zmk(C5:¬sgR r9=0)(C6:¬sgR r9=1)(W7:InI ((i_10:Int)+1)):
  Zm 0 (exec Tryz.prog (tab (n+11)) 0 110 (Za 31) big YQ) (Za 31 10) (Yd a2 r5 d_10 i_10 s_10) (Yd a2 r5 d_10 (i_10+1) s_10):=by
 have C1_:i_10<r5.length:=by omega
 obtain ⟨EL2,EG2⟩:=gEi E2
 simp only [Zk,Zc] at K3
 have K4:=ZN (p:=r9) B4a
 have C5_:(sgR r9==0)=false:=by simpa using C5
 have C6_:(sgR r9==1)=false:=by simpa using C6
 have W7_:IntKind.i64.wrap ((i_10:Int)+1)=(i_10:Int)+1:=Zp W7.1 W7.2
 try simp only [Zd] at K3
 try simp only [Zd] at K4
 apply ZB
 simp+decide [Yd,Zb, Tryz.f31,YQ,Zd,C1,C1_,EG2,K3,K4,C5_,C6_,W7_]
theorem ZlH(C5:sgR r9=0):
  Zj 0 (exec Tryz.prog (tab (n+11)) 0 110 (Za 31) big YQ) (Za 31 (Zo 10)) (Yd a2 r5 d_10 i_10 s_10) (.ret) (Un a2 r5 d_10 s_10):=by
 have C1_:i_10<r5.length:=by omega
 obtain ⟨EL2,EG2⟩:=gEi E2
 simp only [Zk,Zc] at K3
 have K4:=ZN (p:=r9) B4a
 have C5_:(sgR r9==0)=true:=by rw [C5];simp
 apply ZA
 simp+decide [Yd,Zb, Tryz.f31,Un,YQ,C1,C1_,EG2,K3,K4,C5_]
end
theorem ZkY(C1:¬(i_10:Int)<(r5.length:Int)):
  Zj 0 (exec Tryz.prog (tab (n+11)) 0 110 (Za 31) big YQ) (Za 31 (Zo 10)) (Yd a2 r5 d_10 i_10 s_10) (.exit 0) (W0 a2 r5 d_10 s_10):=by
 apply ZA
 simp+decide [Yd,Zb, Tryz.f31,W0,YQ,C1]
section
variable(C1:(i_21:Int)<(r5.length:Int))
include C1
section
variable(C2:d_10=true)(E3:r5[i_21]?=some (F6,q6))(K4:run (n+10) 22 [Zc (F6,q6),.lit (.int .i64 a2)]=some (Zk r12))(B5a:H r12≤17179869184)
include C2 E3 K4 B5a
theorem ZkX(C6:sgR r12<0)(B7a:H q6≤17179869184)(B7b:H s_10≤17179869184)(C8:¬sgR (q6-s_10)<0)(W9:InI ((i_21:Int)+1)):
  Zm 0 (exec Tryz.prog (tab (n+11)) 0 110 (Za 31) big Qf) (Za 31 21) (YA a2 r5 d_10 i_21 s_10) (YA a2 r5 d_10 (i_21+1) s_10):=by
 have C1_:i_21<r5.length:=by omega
 obtain ⟨EL3,EG3⟩:=gEi E3
 simp only [Zk,Zc] at K4
 have K5:=ZN (p:=r12) B5a
 have K7:=QU (p:=q6) (q:=s_10) B7a B7b
 have W9_:IntKind.i64.wrap ((i_21:Int)+1)=(i_21:Int)+1:=Zp W9.1 W9.2
 try simp only [Zd] at K4
 try simp only [Zd] at K5
 try simp only [Zd] at K7
 apply ZB
 simp+decide [YA,Zb, Tryz.f31,Qf,Zd,C1,C1_,C2,EG3,K4,K5,C6,K7,C8,W9_]
theorem ZlA(C6:¬sgR r12<0)(W7:InI ((i_21:Int)+1)):
  Zm 0 (exec Tryz.prog (tab (n+11)) 0 110 (Za 31) big Qf) (Za 31 21) (YA a2 r5 d_10 i_21 s_10) (YA a2 r5 d_10 (i_21+1) s_10):=by
 have C1_:i_21<r5.length:=by omega
 obtain ⟨EL3,EG3⟩:=gEi E3
 simp only [Zk,Zc] at K4
 have K5:=ZN (p:=r12) B5a
 have W7_:IntKind.i64.wrap ((i_21:Int)+1)=(i_21:Int)+1:=Zp W7.1 W7.2
 try simp only [Zd] at K4
 try simp only [Zd] at K5
 apply ZB
 simp+decide [YA,Zb, Tryz.f31,Qf,Zd,C1,C1_,C2,EG3,K4,K5,C6,W7_]
end
theorem ZlD(C2:d_10=false)(W3:InI ((i_21:Int)+1)):
  Zm 0 (exec Tryz.prog (tab (n+11)) 0 110 (Za 31) big Qf) (Za 31 21) (YA a2 r5 d_10 i_21 s_10) (YA a2 r5 d_10 (i_21+1) s_10):=by
 have W3_:IntKind.i64.wrap ((i_21:Int)+1)=(i_21:Int)+1:=Zp W3.1 W3.2
 apply ZB
 simp+decide [YA,Zb, Tryz.f31,Qf,Zd,C1,C2,W3_]
theorem Zml(C2:d_10=true)(E3:r5[i_21]?=some (F6,q6))(K4:run (n+10) 22 [Zc (F6,q6),.lit (.int .i64 a2)]=some (Zk r12))(B5a:H r12≤17179869184)(C6:sgR r12<0)(B7a:H q6≤17179869184)(B7b:H s_10≤17179869184)(C8:sgR (q6-s_10)<0):
  Zj 0 (exec Tryz.prog (tab (n+11)) 0 110 (Za 31) big Qf) (Za 31 (Zo 21)) (YA a2 r5 d_10 i_21 s_10) (.ret) (Ud d_10 s_10):=by
 have C1_:i_21<r5.length:=by omega
 obtain ⟨EL3,EG3⟩:=gEi E3
 simp only [Zk,Zc] at K4
 have K5:=ZN (p:=r12) B5a
 have K7:=QU (p:=q6) (q:=s_10) B7a B7b
 apply ZA
 simp+decide [YA,Zb, Tryz.f31,Ud,Qf,C1,C1_,C2,EG3,K4,K5,C6,K7,C8]
end
theorem Zl7(C1:¬(i_21:Int)<(r5.length:Int)):
  Zj 0 (exec Tryz.prog (tab (n+11)) 0 110 (Za 31) big Qf) (Za 31 (Zo 21)) (YA a2 r5 d_10 i_21 s_10) (.exit 3) (VG d_10 s_10):=by
 apply ZA
 simp+decide [YA,Zb, Tryz.f31,VG,Qf,C1]
section
variable(M1:a1.length+1≤100000000)(K2:run (n+10) 59 [.sl 4 (([a0]++a1).map Zh),.lit (.int .i64 a2)]=some (.lit (.bool r)))
include M1 K2
theorem ZvE(C3:r=false):
  run (n+11) 31 [Zc a0,.sl 4 (a1.map Zh),.lit (.int .i64 a2)]=some (.tup [.lit (.int .i64 0),.agg [.lit (.bool false),.sl 1 [],.sl 1 []],.lit (.int .i64 1)]):=by
 have M1_:∀b,b≤10000→ZG (a1.length+1) b=true:=fun b hb=>Zq M1 hb
 have M1_r:1+(a1.length)=a1.length+1:=Nat.add_comm _ _
 simp only [List.cons_append,List.nil_append,List.map_cons,Zh] at K2
 unfold run fnP
 simp+decide [Tryz.f31,M1_,M1_r,K2,C3]
section
variable(C3:r=true)(K4:run (n+10) 62 [.lit (.int .i64 a2)]=some (Zc r2))(K5:run (n+10) 61 [Zc r2,Zc a0]=some (Zc r3))(K7:run (n+10) 41 [Zc r3,Zk (ofQ (-1))]=some (Zc r4))(M8:a1.length+2≤100000000)(K9:run (n+10) 60 [.sl 4 (([r3,r4]++a1).map Zh),.lit (.int .i64 a2)]=some (.tup [.sl 4 (r5.map Zh),.lit (.int .i64 r6)]))(C10:r6=0)
include C3 K4 K5 K7 M8 K9 C10
theorem Zvq(L11:Zl Tryz.prog (tab (n+11)) 0 110 (Za 31) 10 YQ (Yd a2 r5 false 0 0)=some (.ret,Un a2 r5 d_10 s_10)):
  run (n+11) 31 [Zc a0,.sl 4 (a1.map Zh),.lit (.int .i64 a2)]=some (.tup [.lit (.int .i64 2),.agg [.lit (.bool false),.sl 1 [],.sl 1 []],.lit (.int .i64 0)]):=by
 have M1_:∀b,b≤10000→ZG (a1.length+1) b=true:=fun b hb=>Zq M1 hb
 have M1_r:1+(a1.length)=a1.length+1:=Nat.add_comm _ _
 simp only [List.cons_append,List.nil_append,List.map_cons,Zh] at K2
 simp only [Zc] at K4
 simp only [Zc] at K5
 have K6:=YD (z:=(-1)) (by omega) (by omega)
 simp only [Zk,Zc] at K7
 have M8_:∀b,b≤10000→ZG (a1.length+2) b=true:=fun b hb=>Zq M8 hb
 have M8_r:2+(a1.length)=a1.length+2:=Nat.add_comm _ _
 simp only [List.cons_append,List.nil_append,List.map_cons,Zh] at K9
 have C10_n:(r6 !=0)=false:=by rw [C10];simp
 unfold run fnP
 simp+decide [Tryz.f31,M1_,M1_r,K2,C3,K4,K5,K6,K7,M8_,M8_r,K9,C10_n]
 rw [Zi (C':=YQ) (e:=(Yd a2 r5 false 0 0)) ?_ ?_,L11]
 rotate_left
 ·kernel_rfl
 ·simp+decide [Yd]
 simp+decide [Un]
section
variable(L11:Zl Tryz.prog (tab (n+11)) 0 110 (Za 31) 10 YQ (Yd a2 r5 false 0 0)=some (.exit 0,W0 a2 r5 d_10 s_10))
include L11
theorem Zv2(L12:Zl Tryz.prog (tab (n+11)) 0 110 (Za 31) 21 Qf (YA a2 r5 d_10 0 s_10)=some (.ret,Ud d_10 s_10)):
  run (n+11) 31 [Zc a0,.sl 4 (a1.map Zh),.lit (.int .i64 a2)]=some (.tup [.lit (.int .i64 2),.agg [.lit (.bool false),.sl 1 [],.sl 1 []],.lit (.int .i64 0)]):=by
 have M1_:∀b,b≤10000→ZG (a1.length+1) b=true:=fun b hb=>Zq M1 hb
 have M1_r:1+(a1.length)=a1.length+1:=Nat.add_comm _ _
 simp only [List.cons_append,List.nil_append,List.map_cons,Zh] at K2
 simp only [Zc] at K4
 simp only [Zc] at K5
 have K6:=YD (z:=(-1)) (by omega) (by omega)
 simp only [Zk,Zc] at K7
 have M8_:∀b,b≤10000→ZG (a1.length+2) b=true:=fun b hb=>Zq M8 hb
 have M8_r:2+(a1.length)=a1.length+2:=Nat.add_comm _ _
 simp only [List.cons_append,List.nil_append,List.map_cons,Zh] at K9
 have C10_n:(r6 !=0)=false:=by rw [C10];simp
 unfold run fnP
 simp+decide [Tryz.f31,M1_,M1_r,K2,C3,K4,K5,K6,K7,M8_,M8_r,K9,C10_n]
 rw [Zi (C':=YQ) (e:=(Yd a2 r5 false 0 0)) ?_ ?_,L11]
 rotate_left
 ·kernel_rfl
 ·simp+decide [Yd]
 simp+decide [W0]
 rw [Zi (C':=Qf) (e:=(YA a2 r5 d_10 0 s_10)) ?_ ?_,L12]
 rotate_left
 ·kernel_rfl
 ·simp+decide [YA]
 simp+decide [Ud]
section
variable(L12:Zl Tryz.prog (tab (n+11)) 0 110 (Za 31) 21 Qf (YA a2 r5 d_10 0 s_10)=some (.exit 3,VG d_10 s_10))
include L12
theorem Zwo(C13:d_10=false):
  run (n+11) 31 [Zc a0,.sl 4 (a1.map Zh),.lit (.int .i64 a2)]=some (.tup [.lit (.int .i64 3),.agg [.lit (.bool false),.sl 1 [],.sl 1 []],.lit (.int .i64 0)]):=by
 have M1_:∀b,b≤10000→ZG (a1.length+1) b=true:=fun b hb=>Zq M1 hb
 have M1_r:1+(a1.length)=a1.length+1:=Nat.add_comm _ _
 simp only [List.cons_append,List.nil_append,List.map_cons,Zh] at K2
 simp only [Zc] at K4
 simp only [Zc] at K5
 have K6:=YD (z:=(-1)) (by omega) (by omega)
 simp only [Zk,Zc] at K7
 have M8_:∀b,b≤10000→ZG (a1.length+2) b=true:=fun b hb=>Zq M8 hb
 have M8_r:2+(a1.length)=a1.length+2:=Nat.add_comm _ _
 simp only [List.cons_append,List.nil_append,List.map_cons,Zh] at K9
 have C10_n:(r6 !=0)=false:=by rw [C10];simp
 unfold run fnP
 simp+decide [Tryz.f31,M1_,M1_r,K2,C3,K4,K5,K6,K7,M8_,M8_r,K9,C10_n]
 rw [Zi (C':=YQ) (e:=(Yd a2 r5 false 0 0)) ?_ ?_,L11]
 rotate_left
 ·kernel_rfl
 ·simp+decide [Yd]
 simp+decide [W0,C13]
 rw [Zi (C':=Qf) (e:=(YA a2 r5 d_10 0 s_10)) ?_ ?_,L12]
 rotate_left
 ·kernel_rfl
 ·simp+decide [YA,C13]
 simp+decide [VG,C13]
theorem Zxq(C13:d_10=true):
  run (n+11) 31 [Zc a0,.sl 4 (a1.map Zh),.lit (.int .i64 a2)]=some (.tup [.lit (.int .i64 1),Zk s_10,.lit (.int .i64 0)]):=by
 have M1_:∀b,b≤10000→ZG (a1.length+1) b=true:=fun b hb=>Zq M1 hb
 have M1_r:1+(a1.length)=a1.length+1:=Nat.add_comm _ _
 simp only [List.cons_append,List.nil_append,List.map_cons,Zh] at K2
 simp only [Zc] at K4
 simp only [Zc] at K5
 have K6:=YD (z:=(-1)) (by omega) (by omega)
 simp only [Zk,Zc] at K7
 have M8_:∀b,b≤10000→ZG (a1.length+2) b=true:=fun b hb=>Zq M8 hb
 have M8_r:2+(a1.length)=a1.length+2:=Nat.add_comm _ _
 simp only [List.cons_append,List.nil_append,List.map_cons,Zh] at K9
 have C10_n:(r6 !=0)=false:=by rw [C10];simp
 unfold run fnP
 simp+decide [Tryz.f31,M1_,M1_r,K2,C3,K4,K5,K6,K7,M8_,M8_r,K9,C10_n]
 rw [Zi (C':=YQ) (e:=(Yd a2 r5 false 0 0)) ?_ ?_,L11]
 rotate_left
 ·kernel_rfl
 ·simp+decide [Yd]
 simp+decide [W0,C13]
 rw [Zi (C':=Qf) (e:=(YA a2 r5 d_10 0 s_10)) ?_ ?_,L12]
 rotate_left
 ·kernel_rfl
 ·simp+decide [YA,C13]
 simp+decide [VG,C13]
end
end
end
end
end
theorem Zzo{n:Nat}{a0:Int}:
  run n 62 [.lit (.int .i64 a0)]=some (.agg [.sl 4 [[.lit (.int .i64 a0),.lit (.bool (Ze (ofQ 1)).s),Zd (Ze (ofQ 1)).l1,Zd (Ze (ofQ 1)).l2]],.lit (.bool false),.sl 1 [],.sl 1 []]):=by
 have K1:=YD (z:=1) (by omega) (by omega)
 unfold run fnP
 simp+decide [Tryz.f62,K1]
noncomputable def XP:Code:=(Zb (ZR Tryz.f86)).getD 0 .skip
def Y5(a0:Zf)(a1:Int)(a2:Rat)(out_4:List (Int × Rat))(d_4:Bool)(i_4:Nat):St:=
 ⟨[(1,.lit (.int .i64 a1)),(3,.ptr 0 0),(5,.ptr 1 0),(6,.ptr 2 0),(7,.own 3 out_4.length),(8,.lit (.bool d_4)),(9,.lit (.int .i64 (i_4:Int)))],
  [(0,some (.box 28 [.sl 4 (a0.1.map Zs),.lit (.bool (Ze a0.2).s),Zd (Ze a0.2).l1,Zd (Ze a0.2).l2] false)),
   (1,some (.box 26 [.lit (.bool (Ze a2).s),Zd (Ze a2).l1,Zd (Ze a2).l2] false)),
   (2,some (.box 28 [.nl 4,.lit (.bool false),.nl 1,.nl 1] false)),
   (3,some (.row 68 4 (out_4.map Zs) 0))],4⟩
def Ku(a0:Zf)(a1:Int)(a2:Rat)(out_4:List (Int × Rat))(d_4:Bool):St:=
 ⟨[(1,.lit (.int .i64 a1)),(3,.ptr 0 0),(5,.ptr 1 0),(6,.ptr 2 0),(7,.own 3 out_4.length),(8,.lit (.bool d_4))],
  [(0,some (.box 28 [.sl 4 (a0.1.map Zs),.lit (.bool (Ze a0.2).s),Zd (Ze a0.2).l1,Zd (Ze a0.2).l2] false)),
   (1,some (.box 26 [.lit (.bool (Ze a2).s),Zd (Ze a2).l1,Zd (Ze a2).l2] false)),
   (2,some (.box 28 [.nl 4,.lit (.bool false),.nl 1,.nl 1] false)),
   (3,some (.row 68 4 (out_4.map Zs) 0))],4⟩
section
variable{a1:Int}{a2:Rat}{v3:Int}{out_4:List (Int × Rat)}{q3:Rat}{d_4:Bool}{i_4:Nat}{n:Nat}{a0:Zf}{R12:List (Int × Rat)}{R14:List (Int × Rat)}{R13:List (Int × Rat)}{R15:List (Int × Rat)}{R16:List (Int × Rat)}{R17:List (Int × Rat)}{R18:List (Int × Rat)}
section
variable(C1:(i_4:Int)<(a0.1.length:Int))(E2:a0.1[i_4]?=some (v3,q3))
include C1 E2
theorem ZsO(C3:v3=a1)(B4a:H q3≤17179869184)(B4b:H a2≤17179869184)(K5:Zr n 81 [.own 0 out_4.length,.agg [.lit (.int .i64 v3),.lit (.bool (Ze (q3+a2)).s),Zd (Ze (q3+a2)).l1,Zd (Ze (q3+a2)).l2]] [.row 68 4 (out_4.map Zs) 0]=some (.own 0 out_4.length,[(0,.row 68 4 (out_4.map Zs) 0)]))(W6:InI ((i_4:Int)+1)):
  Zm 0 (exec Tryz.prog (tab (n+1)) 0 61 (Za 86) big XP) (Za 86 4) (Y5 a0 a1 a2 out_4 d_4 i_4) (Y5 a0 a1 a2 out_4 true (i_4+1)):=by
 have C1_:i_4<a0.1.length:=by omega
 obtain ⟨EL2,EG2⟩:=gEi E2
 have C3_:(v3==a1)=true:=by rw [C3];simp
 have K4:=ZeF (p:=q3) (q:=a2) B4a B4b
 have W6_:IntKind.i64.wrap ((i_4:Int)+1)=(i_4:Int)+1:=Zp W6.1 W6.2
 unfold Zm
 simp+decide [Y5,Zb, Tryz.f86,XP,C1,C1_,EG2,C3_,K4,K5,W6_]
theorem ZsP(C3:v3=a1)(B4a:H q3≤17179869184)(B4b:H a2≤17179869184)(K5:Zr n 81 [.own 0 out_4.length,.agg [.lit (.int .i64 v3),.lit (.bool (Ze (q3+a2)).s),Zd (Ze (q3+a2)).l1,Zd (Ze (q3+a2)).l2]] [.row 68 4 (out_4.map Zs) 0]=some (.own 3 R12.length,[(3,.row 68 4 (R12.map Zs) 0)]))(W6:InI ((i_4:Int)+1)):
  Zm 0 (exec Tryz.prog (tab (n+1)) 0 61 (Za 86) big XP) (Za 86 4) (Y5 a0 a1 a2 out_4 d_4 i_4) (Y5 a0 a1 a2 R12 true (i_4+1)):=by
 have C1_:i_4<a0.1.length:=by omega
 obtain ⟨EL2,EG2⟩:=gEi E2
 have C3_:(v3==a1)=true:=by rw [C3];simp
 have K4:=ZeF (p:=q3) (q:=a2) B4a B4b
 have W6_:IntKind.i64.wrap ((i_4:Int)+1)=(i_4:Int)+1:=Zp W6.1 W6.2
 unfold Zm
 simp+decide [Y5,Zb, Tryz.f86,XP,C1,C1_,EG2,C3_,K4,K5,W6_]
theorem Zts(C3:¬v3=a1)(C4:d_4=false)(C5:a1<v3)(B6a:H a2≤17179869184)(K7:Zr n 81 [.own 0 out_4.length,.agg [.lit (.int .i64 a1),.lit (.bool (Ze a2).s),Zd (Ze a2).l1,Zd (Ze a2).l2]] [.row 68 4 (out_4.map Zs) 0]=some (.own 0 out_4.length,[(0,.row 68 4 (out_4.map Zs) 0)]))(K8:Zr n 81 [.own 0 out_4.length,.agg [.lit (.int .i64 v3),.lit (.bool (Ze q3).s),Zd (Ze q3).l1,Zd (Ze q3).l2]] [.row 68 4 (out_4.map Zs) 0]=some (.own 3 R14.length,[(3,.row 68 4 (R14.map Zs) 0)]))(W9:InI ((i_4:Int)+1)):
  Zm 0 (exec Tryz.prog (tab (n+1)) 0 61 (Za 86) big XP) (Za 86 4) (Y5 a0 a1 a2 out_4 d_4 i_4) (Y5 a0 a1 a2 R14 true (i_4+1)):=by
 have C1_:i_4<a0.1.length:=by omega
 obtain ⟨EL2,EG2⟩:=gEi E2
 have C3_:(v3==a1)=false:=by simpa using C3
 have K6:=Zai (p:=a2) B6a
 have W9_:IntKind.i64.wrap ((i_4:Int)+1)=(i_4:Int)+1:=Zp W9.1 W9.2
 unfold Zm
 simp+decide [Y5,Zb, Tryz.f86,XP,C1,C1_,EG2,C3_,C4,C5,K6,K7,K8,W9_]
theorem ZsX(C3:¬v3=a1)(C4:d_4=false)(C5:a1<v3)(B6a:H a2≤17179869184)(K7:Zr n 81 [.own 0 out_4.length,.agg [.lit (.int .i64 a1),.lit (.bool (Ze a2).s),Zd (Ze a2).l1,Zd (Ze a2).l2]] [.row 68 4 (out_4.map Zs) 0]=some (.own 3 R13.length,[(3,.row 68 4 (R13.map Zs) 0)]))(K8:Zr n 81 [.own 0 R13.length,.agg [.lit (.int .i64 v3),.lit (.bool (Ze q3).s),Zd (Ze q3).l1,Zd (Ze q3).l2]] [.row 68 4 (R13.map Zs) 0]=some (.own 3 R15.length,[(3,.row 68 4 (R15.map Zs) 0)]))(W9:InI ((i_4:Int)+1)):
  Zm 0 (exec Tryz.prog (tab (n+1)) 0 61 (Za 86) big XP) (Za 86 4) (Y5 a0 a1 a2 out_4 d_4 i_4) (Y5 a0 a1 a2 R15 true (i_4+1)):=by
 have C1_:i_4<a0.1.length:=by omega
 obtain ⟨EL2,EG2⟩:=gEi E2
 have C3_:(v3==a1)=false:=by simpa using C3
 have K6:=Zai (p:=a2) B6a
 have W9_:IntKind.i64.wrap ((i_4:Int)+1)=(i_4:Int)+1:=Zp W9.1 W9.2
 unfold Zm
 simp+decide [Y5,Zb, Tryz.f86,XP,C1,C1_,EG2,C3_,C4,C5,K6,K7,K8,W9_]
theorem ZsU(C3:¬v3=a1)(C4:d_4=false)(C5:¬a1<v3)(K6:Zr n 81 [.own 0 out_4.length,.agg [.lit (.int .i64 v3),.lit (.bool (Ze q3).s),Zd (Ze q3).l1,Zd (Ze q3).l2]] [.row 68 4 (out_4.map Zs) 0]=some (.own 3 R16.length,[(3,.row 68 4 (R16.map Zs) 0)]))(W7:InI ((i_4:Int)+1)):
  Zm 0 (exec Tryz.prog (tab (n+1)) 0 61 (Za 86) big XP) (Za 86 4) (Y5 a0 a1 a2 out_4 d_4 i_4) (Y5 a0 a1 a2 R16 d_4 (i_4+1)):=by
 have C1_:i_4<a0.1.length:=by omega
 obtain ⟨EL2,EG2⟩:=gEi E2
 have C3_:(v3==a1)=false:=by simpa using C3
 have W7_:IntKind.i64.wrap ((i_4:Int)+1)=(i_4:Int)+1:=Zp W7.1 W7.2
 unfold Zm
 simp+decide [Y5,Zb, Tryz.f86,XP,C1,C1_,EG2,C3_,C4,C5,K6,W7_]
theorem Zpf(C3:¬v3=a1)(C4:d_4=true)(K5:Zr n 81 [.own 0 out_4.length,.agg [.lit (.int .i64 v3),.lit (.bool (Ze q3).s),Zd (Ze q3).l1,Zd (Ze q3).l2]] [.row 68 4 (out_4.map Zs) 0]=some (.own 3 R17.length,[(3,.row 68 4 (R17.map Zs) 0)]))(W6:InI ((i_4:Int)+1)):
  Zm 0 (exec Tryz.prog (tab (n+1)) 0 61 (Za 86) big XP) (Za 86 4) (Y5 a0 a1 a2 out_4 d_4 i_4) (Y5 a0 a1 a2 R17 d_4 (i_4+1)):=by
 have C1_:i_4<a0.1.length:=by omega
 obtain ⟨EL2,EG2⟩:=gEi E2
 have C3_:(v3==a1)=false:=by simpa using C3
 have W6_:IntKind.i64.wrap ((i_4:Int)+1)=(i_4:Int)+1:=Zp W6.1 W6.2
 unfold Zm
 simp+decide [Y5,Zb, Tryz.f86,XP,C1,C1_,EG2,C3_,C4,K5,W6_]
end
theorem Zs1(C1:¬(i_4:Int)<(a0.1.length:Int)):
  Zj 0 (exec Tryz.prog (tab (n+1)) 0 61 (Za 86) big XP) (Za 86 (Zo 4)) (Y5 a0 a1 a2 out_4 d_4 i_4) (.exit 0) (Ku a0 a1 a2 out_4 d_4):=by
 unfold Zj
 simp+decide [Y5,Zb, Tryz.f86,Ku,XP,C1]
section
variable(L1:Zl Tryz.prog (tab (n+1)) 0 61 (Za 86) 4 XP (Y5 a0 a1 a2 [] false 0)=some (.exit 0,Ku a0 a1 a2 out_4 d_4))
include L1
theorem ZAl(C2:d_4=false)(B3a:H a2≤17179869184)(K4:Zr n 81 [.own 0 out_4.length,.agg [.lit (.int .i64 a1),.lit (.bool (Ze a2).s),Zd (Ze a2).l1,Zd (Ze a2).l2]] [.row 68 4 (out_4.map Zs) 0]=some (.own 0 out_4.length,[(0,.row 68 4 (out_4.map Zs) 0)])):
  run (n+1) 86 [Zc a0,.lit (.int .i64 a1),Zk a2]=some (Zc (out_4,a0.2)):=by
 have K3:=Zai (p:=a2) B3a
 unfold run fnP
 simp+decide [Tryz.f86]
 rw [Zi (C':=XP) (e:=(Y5 a0 a1 a2 [] false 0)) ?_ ?_,L1]
 rotate_left
 ·kernel_rfl
 ·simp+decide [Y5]
 simp+decide [Ku,C2,K3,K4]
theorem ZAE(C2:d_4=false)(B3a:H a2≤17179869184)(K4:Zr n 81 [.own 0 out_4.length,.agg [.lit (.int .i64 a1),.lit (.bool (Ze a2).s),Zd (Ze a2).l1,Zd (Ze a2).l2]] [.row 68 4 (out_4.map Zs) 0]=some (.own 3 R18.length,[(3,.row 68 4 (R18.map Zs) 0)])):
  run (n+1) 86 [Zc a0,.lit (.int .i64 a1),Zk a2]=some (Zc (R18,a0.2)):=by
 have K3:=Zai (p:=a2) B3a
 unfold run fnP
 simp+decide [Tryz.f86]
 rw [Zi (C':=XP) (e:=(Y5 a0 a1 a2 [] false 0)) ?_ ?_,L1]
 rotate_left
 ·kernel_rfl
 ·simp+decide [Y5]
 simp+decide [Ku,C2,K3,K4]
theorem ZAC(C2:d_4=true):
  run (n+1) 86 [Zc a0,.lit (.int .i64 a1),Zk a2]=some (Zc (out_4,a0.2)):=by
 unfold run fnP
 simp+decide [Tryz.f86]
 rw [Zi (C':=XP) (e:=(Y5 a0 a1 a2 [] false 0)) ?_ ?_,L1]
 rotate_left
 ·kernel_rfl
 ·simp+decide [Y5]
 simp+decide [Ku,C2]
end
end
noncomputable def ZeT:Code:=(Zb (ZR Tryz.f50)).getD 0 .skip
def Za9(a1:Zf)(i_3:Nat)(l_3:List (Int × Rat))(s_3:Rat):St:=
 ⟨[(3,.ptr 0 0),(4,.ptr 1 0),(5,.ptr 2 0),(6,.lit (.int .i64 (i_3:Int)))],
  [(0,some (.box 28 [.sl 4 (a1.1.map Zs),.lit (.bool (Ze a1.2).s),Zd (Ze a1.2).l1,Zd (Ze a1.2).l2] false)),
   (1,some (.box 28 [.nl 4,.lit (.bool false),.nl 1,.nl 1] false)),
   (2,some (.box 28 [.sl 4 (l_3.map Zs),.lit (.bool (Ze s_3).s),Zd (Ze s_3).l1,Zd (Ze s_3).l2] false))],3⟩
def ZdW(l_3:List (Int × Rat))(s_3:Rat):St:=
 ⟨[(4,.ptr 0 0),(5,.ptr 1 0)],
  [(0,some (.box 28 [.nl 4,.lit (.bool false),.nl 1,.nl 1] false)),
   (1,some (.box 28 [.sl 4 (l_3.map Zs),.lit (.bool (Ze s_3).s),Zd (Ze s_3).l1,Zd (Ze s_3).l2] false))],2⟩
section
variable{a1:Zf}{v3:Int}{s_3:Rat}{l_3:List (Int × Rat)}{q3:Rat}{i_3:Nat}{n:Nat}{r3:Zf}{a0:Zf}
theorem Zt9(C1:(i_3:Int)<(a1.1.length:Int))(E2:a1.1[i_3]?=some (v3,q3))(K3:run (n+1) 86 [Zc (l_3,s_3),.lit (.int .i64 v3),Zk q3]=some (Zc r3))(W4:InI ((i_3:Int)+1)):
  Zm 0 (exec Tryz.prog (tab (n+2)) 0 43 (Za 50) big ZeT) (Za 50 3) (Za9 a1 i_3 l_3 s_3) (Za9 a1 (i_3+1) r3.1 r3.2):=by
 have C1_:i_3<a1.1.length:=by omega
 obtain ⟨EL2,EG2⟩:=gEi E2
 simp only [Zk,Zc] at K3
 have W4_:IntKind.i64.wrap ((i_3:Int)+1)=(i_3:Int)+1:=Zp W4.1 W4.2
 unfold Zm
 simp+decide [Za9,Zb, Tryz.f50,ZeT,C1,C1_,EG2,K3,W4_]
theorem Zsj(C1:¬(i_3:Int)<(a1.1.length:Int)):
  Zj 0 (exec Tryz.prog (tab (n+2)) 0 43 (Za 50) big ZeT) (Za 50 (Zo 3)) (Za9 a1 i_3 l_3 s_3) (.exit 0) (ZdW l_3 s_3):=by
 unfold Zj
 simp+decide [Za9,Zb, Tryz.f50,ZdW,ZeT,C1]
theorem Zzg(B1a:H a0.2≤17179869184)(B1b:H a1.2≤17179869184)(L2:Zl Tryz.prog (tab (n+2)) 0 43 (Za 50) 3 ZeT (Za9 a1 0 a0.1 (a0.2+a1.2))=some (.exit 0,ZdW l_3 s_3))(M3:l_3.length≤100000000):
  run (n+2) 50 [Zc a0,Zc a1]=some (Zc (l_3,s_3)):=by
 have K1:=ZeF (p:=a0.2) (q:=a1.2) B1a B1b
 have M3_:∀b,b≤10000→ZG (l_3.length) b=true:=fun b hb=>Zq M3 hb
 unfold run fnP
 simp+decide [Tryz.f50,K1]
 rw [Zi (C':=ZeT) (e:=(Za9 a1 0 a0.1 (a0.2+a1.2))) ?_ ?_,L2]
 rotate_left
 ·kernel_rfl
 ·simp+decide [Za9]
 simp+decide [ZdW,M3_]
end
noncomputable def Zb5:Code:=(Zb (ZR Tryz.f41)).getD 0 .skip
def Kn(a0:Zf)(a1:Rat)(i_3:Nat)(out_3:List (Int × Rat)):St:=
 ⟨[(2,.ptr 0 0),(3,.ptr 1 0),(4,.ptr 2 0),(5,.ptr 3 0),(6,.lit (.int .i64 (i_3:Int)))],
  [(0,some (.box 28 [.sl 4 (a0.1.map Zs),.lit (.bool (Ze a0.2).s),Zd (Ze a0.2).l1,Zd (Ze a0.2).l2] false)),
   (1,some (.box 26 [.lit (.bool (Ze a1).s),Zd (Ze a1).l1,Zd (Ze a1).l2] false)),
   (2,some (.box 28 [.nl 4,.lit (.bool false),.nl 1,.nl 1] false)),
   (3,some (.box 28 [.own 4 out_3.length,.lit (.bool (Ze (a0.2*a1)).s),Zd (Ze (a0.2*a1)).l1,Zd (Ze (a0.2*a1)).l2] false)),
   (4,some (.row 68 4 (out_3.map Zs) 0))],5⟩
def Zds(a0:Zf)(a1:Rat)(out_3:List (Int × Rat)):St:=
 ⟨[(4,.ptr 0 0),(5,.ptr 1 0)],
  [(0,some (.box 28 [.nl 4,.lit (.bool false),.nl 1,.nl 1] false)),
   (1,some (.box 28 [.own 2 out_3.length,.lit (.bool (Ze (a0.2*a1)).s),Zd (Ze (a0.2*a1)).l1,Zd (Ze (a0.2*a1)).l2] false)),
   (2,some (.row 68 4 (out_3.map Zs) 0))],3⟩
section
variable{a1:Rat}{v3:Int}{q3:Rat}{i_3:Nat}{n:Nat}{out_3:List (Int × Rat)}{a0:Zf}{R3:List (Int × Rat)}
section
variable(C1:(i_3:Int)<(a0.1.length:Int))(E2:a0.1[i_3]?=some (v3,q3))(B3a:H q3≤17179869184)(B3b:H a1≤17179869184)
include C1 E2 B3a B3b
theorem Zuq(K4:Zr n 81 [.own 0 out_3.length,.agg [.lit (.int .i64 v3),.lit (.bool (Ze (q3*a1)).s),Zd (Ze (q3*a1)).l1,Zd (Ze (q3*a1)).l2]] [.row 68 4 (out_3.map Zs) 0]=some (.own 0 out_3.length,[(0,.row 68 4 (out_3.map Zs) 0)]))(W5:InI ((i_3:Int)+1)):
  Zm 0 (exec Tryz.prog (tab (n+1)) 0 39 (Za 41) big Zb5) (Za 41 3) (Kn a0 a1 i_3 out_3) (Kn a0 a1 (i_3+1) out_3):=by
 have C1_:i_3<a0.1.length:=by omega
 obtain ⟨EL2,EG2⟩:=gEi E2
 have K3:=JK (p:=q3) (q:=a1) B3a B3b
 have W5_:IntKind.i64.wrap ((i_3:Int)+1)=(i_3:Int)+1:=Zp W5.1 W5.2
 unfold Zm
 simp+decide [Kn,Zb, Tryz.f41,Zb5,C1,C1_,EG2,K3,K4,W5_]
theorem Ztp(K4:Zr n 81 [.own 0 out_3.length,.agg [.lit (.int .i64 v3),.lit (.bool (Ze (q3*a1)).s),Zd (Ze (q3*a1)).l1,Zd (Ze (q3*a1)).l2]] [.row 68 4 (out_3.map Zs) 0]=some (.own 3 R3.length,[(3,.row 68 4 (R3.map Zs) 0)]))(W5:InI ((i_3:Int)+1)):
  Zm 0 (exec Tryz.prog (tab (n+1)) 0 39 (Za 41) big Zb5) (Za 41 3) (Kn a0 a1 i_3 out_3) (Kn a0 a1 (i_3+1) R3):=by
 have C1_:i_3<a0.1.length:=by omega
 obtain ⟨EL2,EG2⟩:=gEi E2
 have K3:=JK (p:=q3) (q:=a1) B3a B3b
 have W5_:IntKind.i64.wrap ((i_3:Int)+1)=(i_3:Int)+1:=Zp W5.1 W5.2
 unfold Zm
 simp+decide [Kn,Zb, Tryz.f41,Zb5,C1,C1_,EG2,K3,K4,W5_]
end
theorem Zud(C1:¬(i_3:Int)<(a0.1.length:Int)):
  Zj 0 (exec Tryz.prog (tab (n+1)) 0 39 (Za 41) big Zb5) (Za 41 (Zo 3)) (Kn a0 a1 i_3 out_3) (.exit 0) (Zds a0 a1 out_3):=by
 unfold Zj
 simp+decide [Kn,Zb, Tryz.f41,Zds,Zb5,C1]
theorem ZAy(B1a:H a0.2≤17179869184)(B1b:H a1≤17179869184)(L2:Zl Tryz.prog (tab (n+1)) 0 39 (Za 41) 3 Zb5 (Kn a0 a1 0 [])=some (.exit 0,Zds a0 a1 out_3)):
  run (n+1) 41 [Zc a0,Zk a1]=some (Zc (out_3,a0.2*a1)):=by
 have K1:=JK (p:=a0.2) (q:=a1) B1a B1b
 unfold run fnP
 simp+decide [Tryz.f41,K1]
 rw [Zi (C':=Zb5) (e:=(Kn a0 a1 0 [])) ?_ ?_,L2]
 rotate_left
 ·kernel_rfl
 ·simp+decide [Kn]
 simp+decide [Zds]
end
theorem Zco{n:Nat}{F:List (Int × Rat)}{v:Int}{q:Rat}(hq:H q≤17179869184)(h0:q=0):
  Zr n 81 [.own 0 F.length,.agg [.lit (.int .i64 v),.lit (.bool (Ze q).s),Zd (Ze q).l1,Zd (Ze q).l2]] [.row 68 4 (F.map Zs) 0]=some (.own 0 F.length,[(0,.row 68 4 (F.map Zs) 0)]):=by
 unfold Zr fnL
 have hs:=ZN (p:=q) hq
 have e2:(sgR q==0)=true:=by rw [Yl.2 h0];rfl
 simp+decide [Tryz.f81,hs,e2]
theorem KS{n:Nat}{F:List (Int × Rat)}{v:Int}{q:Rat}(hq:H q≤17179869184)(h0:q≠0)(hF:F.length≤10000000):
  Zr n 81 [.own 0 F.length,.agg [.lit (.int .i64 v),.lit (.bool (Ze q).s),Zd (Ze q).l1,Zd (Ze q).l2]] [.row 68 4 (F.map Zs) 0]=some (.own 3 (F++[(v,q)]).length,[(3,.row 68 4 ((F++[(v,q)]).map Zs) 0)]):=by
 unfold Zr fnL
 have hs:=ZN (p:=q) hq
 have e2:(sgR q==0)=false:=by simpa using fun h=>h0 (Yl.1 h)
 have hr:∀b,b≤10000→ZG (F.length+1) b=true:=fun b hb=>Zq (by omega) hb
 simp+decide [Tryz.f81,hs,e2,hr]
def plF(v:Int)(c:Rat)(i:Nat)(b:List (Int × Rat) × Bool)(t:Int × Rat):List (Int × Rat) × Bool:=
 if t.1=v then (b.1++Ya t.1 (t.2+c),true) else if b.2=false∧v<t.1 then (b.1++(Ya v c++Ya t.1 t.2),true) else (b.1++Ya t.1 t.2,b.2)
theorem Za6(v:Int)(c:Rat):∀(R:List (Int × Rat)) (i:Nat) (out:List (Int × Rat)) (d:Bool),VQ (plF v c) i (out,d) R=(out++plO d R v c,plD d R v)
 | [],i,out,d=>by simp [VQ,plO,plD]
 | t::R,i,out,d=>by
   rw [VQ,plO,plD,plF]
   split
   ·rw [Za6];simp [List.append_assoc]
   ·split
    ·rw [Za6];simp [List.append_assoc]
    ·rw [Za6];simp [List.append_assoc]
theorem Zug{n:Nat}{f:Zf}{v:Int}{c:Rat}(hT:TmB 1000000 f.1)(hF:f.1.length≤400000)(hc:H c≤1000000){i:Nat}{t:Int × Rat}{b:List (Int × Rat) × Bool}(hi:f.1[i]?=some t)(hb:b.1.length≤2*i):
  Zm 0 (exec Tryz.prog (tab (n+1)) 0 61 (Za 86) big XP) (Za 86 4) (Y5 f v c b.1 b.2 i) (Y5 f v c (plF v c i b t).1 (plF v c i b t).2 (i+1)):=by
 obtain ⟨u,q⟩:=t
 obtain ⟨out,d⟩:=b
 have hlt:=(gEi hi).1
 have ht:=hT _ (gMe hi)
 have hq:H q≤1000000:=ht.2
 have hq0:q≠0:=ht.1
 have hH:=Zek q c
 have C1:(i:Int)<(f.1.length:Int):=by omega
 have W:InI ((i:Int)+1):=⟨by omega,by omega⟩
 have hb:out.length≤2*i:=hb
 have e3:Ya u q=[(u,q)]:=if_neg hq0
 unfold plF
 dsimp only
 split
 ·rename_i e
  by_cases h0:q+c=0
  ·have e4:Ya u (q+c)=[]:=if_pos h0
   rw [e4,List.append_nil]
   exact ZsO C1 hi e (by omega) (by omega) (Zco (by omega) h0) W
  ·have e4:Ya u (q+c)=[(u,q+c)]:=if_neg h0
   rw [e4]
   exact ZsP C1 hi e (by omega) (by omega) (KS (by omega) h0 (by omega)) W
 ·rename_i e
  split
  ·rename_i e2
   obtain ⟨e2,e5⟩:=e2
   rw [e3]
   by_cases h0:c=0
   ·have e4:Ya v c=[]:=if_pos h0
    rw [e4,List.nil_append]
    exact Zts C1 hi e e2 e5 (by omega) (Zco (by omega) h0) (KS (by omega) hq0 (by omega)) W
   ·have e4:Ya v c=[(v,c)]:=if_neg h0
    rw [e4,←List.append_assoc]
    exact ZsX C1 hi e e2 e5 (by omega) (KS (by omega) h0 (by omega)) (KS (by omega) hq0 (by rw [List.length_append];simp;omega)) W
  ·rename_i e2
   rw [e3]
   cases d with
   | true=>exact Zpf C1 hi e rfl (KS (by omega) hq0 (by omega)) W
   | false=>exact ZsU C1 hi e rfl (fun h=>e2 ⟨rfl,h⟩) (KS (by omega) hq0 (by omega)) W
theorem Zux(v:Int)(c:Rat)(i:Nat)(b:List (Int × Rat) × Bool)(t:Int × Rat):(plF v c i b t).1.length≤b.1.length+2:=by
 have h1:=Y6 t.1 (t.2+c)
 have h2:=Y6 v c
 have h3:=Y6 t.1 t.2
 unfold plF
 split
 ·rw [List.length_append];omega
 ·split
  ·rw [List.length_append,List.length_append];omega
  ·rw [List.length_append];omega
theorem ZvI{n:Nat}{f:Zf}{v:Int}{c:Rat}(hT:TmB 1000000 f.1)(hF:f.1.length≤400000)(hc:H c≤1000000):
  run (n+1) 86 [Zc f,.lit (.int .i64 v),Zk c]=some (Zc (Z4 false f.1 v c,f.2)):=by
 have L:Zl Tryz.prog (tab (n+1)) 0 61 (Za 86) 4 XP (Y5 f v c [] false 0)=some (.exit 0,Ku f v c (plO false f.1 v c) (plD false f.1 v)):=by
  have h:=(Wg (O:=tab (n+1)) (exN:=.exit 0) (L:=f.1) (enc:=fun i b=>Y5 f v c b.1 b.2 i) (f:=plF v c) (Inv:=fun i b=>b.1.length≤2*i) (out:=fun b=>Ku f v c b.1 b.2) ([],false) (by simp) (by omega) (by simp)
   (fun i t b hi hI=>⟨Zug hT hF hc hi hI,by have:=Zux v c i b t;omega⟩) (fun b hI=>Zs1 (by omega))).1
  rw [Za6] at h
  exact h
 have hl:=ZfV v c false f.1
 rw [Jk]
 cases hd:plD false f.1 v with
 | true=>
   rw [hd] at L
   rw [if_pos rfl,List.append_nil]
   exact ZAC L rfl
 | false=>
   rw [hd] at L
   rw [if_neg (by simp)]
   by_cases h0:c=0
   ·have e:Ya v c=[]:=if_pos h0
    rw [e,List.append_nil]
    exact ZAl L rfl (by omega) (Zco (by omega) h0)
   ·have e:Ya v c=[(v,c)]:=if_neg h0
    rw [e]
    exact ZAE L rfl (by omega) (KS (by omega) h0 (by omega))
theorem ZaG{n:Nat}{f:Zf}{c:Rat}(hT:TmB 1000000 f.1)(hF:f.1.length≤400000)(hk:H f.2≤1000000)(hc:H c≤1000000):
  run (n+1) 41 [Zc f,Zk c]=some (Zc (Yh f.1 c,f.2*c)):=by
 have key:∀(R:List (Int × Rat)) (i:Nat) (o:List (Int × Rat)),VQ (fun _ b (t:Int × Rat)=>b++Ya t.1 (t.2*c)) i o R=o++Yh R c:=fun R=>by
  induction R with
  | nil=>intro i o;simp [VQ,Yh]
  | cons t R ih=>intro i o;rw [VQ,ih];simp [Yh,List.append_assoc]
 refine ZAy (by omega) (by omega) ?_
 have h:=(Wg (O:=tab (n+1)) (exN:=.exit 0) (L:=f.1) (enc:=fun i b=>Kn f c i b) (f:=fun _ b (t:Int × Rat)=>b++Ya t.1 (t.2*c)) (Inv:=fun i b=>b.length≤i) (out:=fun b=>Zds f c b) [] (by simp) (by omega) (by simp)
  (fun i t b hi hI=>by
   obtain ⟨u,q⟩:=t
   have hlt:=(gEi hi).1
   have hq:H q≤1000000:=(hT _ (gMe hi)).2
   have hm:=Kk q c
   have C1:(i:Int)<(f.1.length:Int):=by omega
   have W:InI ((i:Int)+1):=⟨by omega,by omega⟩
   have hl:=Y6 u (q*c)
   refine ⟨?_,by rw [List.length_append];dsimp only;omega⟩
   dsimp only
   by_cases h0:q*c=0
   ·have e:Ya u (q*c)=[]:=if_pos h0
    rw [e,List.append_nil]
    exact Zuq C1 hi (by omega) (by omega) (Zco (by omega) h0) W
   ·have e:Ya u (q*c)=[(u,q*c)]:=if_neg h0
    rw [e]
    exact Ztp C1 hi (by omega) (by omega) (KS (by omega) h0 (by omega)) W) (fun b hI=>Zud (by omega))).1
 rw [key,List.nil_append] at h
 exact h
theorem ZuW{n:Nat}{f g:Zf}{m b:Nat}(hT:TmB b g.1)(hG:g.1.length≤200000)(hF:TmB m f.1)(hl:f.1.length≤200000)(hm:m+(b+1)*(g.1.length+1)≤1000000)(h1:H f.2≤1000000)(h2:H g.2≤1000000):
  run (n+2) 50 [Zc f,Zc g]=some (Zc (Wp f.1 g.1,f.2+g.2)):=by
 have key:∀(R:List (Int × Rat)) (i:Nat) (o:List (Int × Rat)),VQ (fun _ b (t:Int × Rat)=>Z4 false b t.1 t.2) i o R=Wp o R:=fun R=>by
  induction R with
  | nil=>intro i o;rfl
  | cons t R ih=>intro i o;rw [VQ,ih];rfl
 have hlen:∀(R o:List (Int × Rat)),(Wp o R).length≤o.length+R.length:=fun R=>by
  induction R with
  | nil=>intro o;simp [Wp]
  | cons t R ih=>
    intro o
    have h1:=ih (Z4 false o t.1 t.2)
    have h2:=Uj false o t.1 t.2
    show (Wp (Z4 false o t.1 t.2) R).length≤_
    rw [List.length_cons];omega
 refine Zzg (by omega) (by omega) ?_ (by have:=hlen g.1 f.1;omega)
 have h:=(Wg (O:=tab (n+2)) (exN:=.exit 0) (L:=g.1) (enc:=fun i o=>Za9 g i o (f.2+g.2)) (f:=fun _ o (t:Int × Rat)=>Z4 false o t.1 t.2) (Inv:=fun i o=>o.length≤f.1.length+i∧TmB (m+(b+1)*i) o∧i≤g.1.length) (out:=fun o=>ZdW o (f.2+g.2)) f.1 ⟨by omega,by simpa using hF,by omega⟩ (by omega) (by simp)
  (fun i t o hi hI=>by
   obtain ⟨u,q⟩:=t
   obtain ⟨hI1,hI2,hI3⟩:=hI
   have hlt:=(gEi hi).1
   have hq:H q≤b:=(hT _ (gMe hi)).2
   have C1:(i:Int)<(g.1.length:Int):=by omega
   have W:InI ((i:Int)+1):=⟨by omega,by omega⟩
   have hl2:=Uj false o u q
   have hmi:(b+1)*i≤(b+1)*(g.1.length+1):=Nat.mul_le_mul_left _ (by omega)
   have hb1:b+1≤(b+1)*(g.1.length+1):=Nat.le_mul_of_pos_right _ (by omega)
   have e:m+(b+1)*(i+1)=m+(b+1)*i+b+1:=by rw [Nat.mul_succ];omega
   refine ⟨Zt9 (r3:=(Z4 false o u q,f.2+g.2)) C1 hi (ZvI (f:=(o,f.2+g.2)) (hI2.mono (by omega)) (by dsimp only;omega) (by omega)) W,by dsimp only;omega,?_,hlt⟩
   rw [e]
   exact hI2.plus hq) (fun b hI=>Zsj (by omega))).1
 rw [key] at h
 exact h
noncomputable def Xs:Code:=(Zb (ZR Tryz.f21)).getD 0 .skip
def QP(a0:Zf)(a1:Int)(i_2:Nat):St:=
 ⟨[(1,.lit (.int .i64 a1)),(2,.ptr 0 0),(5,.lit (.int .i64 (i_2:Int)))],
  [(0,some (.box 28 [.sl 4 (a0.1.map Zs),.lit (.bool (Ze a0.2).s),Zd (Ze a0.2).l1,Zd (Ze a0.2).l2] false))],1⟩
def Wu(a0:Zf):St:=
 ⟨[(2,.ptr 0 0),(4,.lit (.bool false))],
  [(0,some (.box 28 [.sl 4 (a0.1.map Zs),.lit (.bool (Ze a0.2).s),Zd (Ze a0.2).l1,Zd (Ze a0.2).l2] false))],1⟩
def Zdu(a0:Zf):St:=
 ⟨[(2,.ptr 0 0),(4,.any)],
  [(0,some (.box 28 [.sl 4 (a0.1.map Zs),.lit (.bool (Ze a0.2).s),Zd (Ze a0.2).l1,Zd (Ze a0.2).l2] false))],1⟩
section
variable {v5 : Int} {a1 : Int} {i_2 : Nat} {v4 : Int} {q5 : Rat} {q4 : Rat} {n : Nat} {a0 : Zf}
section
variable(C1:(i_2:Int)<(a0.1.length:Int))(E2:a0.1[i_2]?=some (v4,q4))
include C1 E2
theorem Zt4(C3:¬v4<0)(C4:¬a1≤v4)(C5:0<(i_2:Int))(W6:InI ((i_2:Int)-1))(E7:a0.1[i_2-1]?=some (v5,q5))(Z7:1≤i_2)(C8:¬v4≤v5)(B9a:H q4≤17179869184)(C10:¬sgR q4=0)(W12:InI ((i_2:Int)+1)):
  Zm 0 (exec Tryz.prog (tab n) 0 59 (Za 21) big Xs) (Za 21 2) (QP a0 a1 i_2) (QP a0 a1 (i_2+1)):=by
 have C1_:i_2<a0.1.length:=by omega
 obtain ⟨EL2,EG2⟩:=gEi E2
 have C5_:0<i_2:=by omega
 have C5_z:(i_2:Int)≠0:=by omega
 have C5_e:((i_2:Int)==0)=false:=by simpa using C5_z
 have C5_g:((i_2:Int) !=0)=true:=by simpa using C5_z
 have W6_:IntKind.i64.wrap ((i_2:Int)-1)=(i_2:Int)-1:=Zp W6.1 W6.2
 obtain ⟨EL7,EG7⟩:=gEi E7
 have Z7_0:(1:Int)≤(i_2:Int):=by omega
 have Z7_1:0≤(i_2:Int)-1:=by omega
 have K9:=ZN (p:=q4) B9a
 have C10_:(sgR q4==0)=false:=by simpa using C10
 have C10_n:(sgR q4 !=0)=true:=by simpa using C10
 have K11:=Jb (p:=q4) B9a
 have W12_:IntKind.i64.wrap ((i_2:Int)+1)=(i_2:Int)+1:=Zp W12.1 W12.2
 unfold Zm
 simp+decide [QP,Zb, Tryz.f21,Xs,C1,C1_,EL2,EG2,E2,C3,C4,C5,C5_,C5_e,C5_g,W6_,EL7,EG7,E7,Z7,Z7_0,Z7_1,C8,K9,C10_,C10_n,K11,W12_]
theorem Zse(C3:¬v4<0)(C4:¬a1≤v4)(C5:¬0<(i_2:Int))(B6a:H q4≤17179869184)(C7:¬sgR q4=0)(W9:InI ((i_2:Int)+1)):
  Zm 0 (exec Tryz.prog (tab n) 0 59 (Za 21) big Xs) (Za 21 2) (QP a0 a1 i_2) (QP a0 a1 (i_2+1)):=by
 have C1_:i_2<a0.1.length:=by omega
 obtain ⟨EL2,EG2⟩:=gEi E2
 have C5_:¬0<i_2:=by omega
 have C5_z:(i_2:Int)=0:=by omega
 have C5_e:((i_2:Int)==0)=true:=by rw [C5_z];simp
 have C5_g:((i_2:Int) !=0)=false:=by rw [C5_z];simp
 have K6:=ZN (p:=q4) B6a
 have C7_:(sgR q4==0)=false:=by simpa using C7
 have C7_n:(sgR q4 !=0)=true:=by simpa using C7
 have K8:=Jb (p:=q4) B6a
 have W9_:IntKind.i64.wrap ((i_2:Int)+1)=(i_2:Int)+1:=Zp W9.1 W9.2
 unfold Zm
 simp+decide [QP,Zb, Tryz.f21,Xs,C1,C1_,EL2,EG2,E2,C3,C4,C5,C5_,C5_e,C5_g,K6,C7_,C7_n,K8,W9_]
theorem Zi0(C3:v4<0):
  Zj 0 (exec Tryz.prog (tab n) 0 59 (Za 21) big Xs) (Za 21 (Zo 2)) (QP a0 a1 i_2) (.ret) (Wu a0):=by
 have C1_:i_2<a0.1.length:=by omega
 obtain ⟨EL2,EG2⟩:=gEi E2
 unfold Zj
 simp+decide [QP,Zb, Tryz.f21,Wu,Xs,C1,C1_,EL2,EG2,E2,C3]
theorem Zj6(C3:¬v4<0)(C4:a1≤v4):
  Zj 0 (exec Tryz.prog (tab n) 0 59 (Za 21) big Xs) (Za 21 (Zo 2)) (QP a0 a1 i_2) (.ret) (Wu a0):=by
 have C1_:i_2<a0.1.length:=by omega
 obtain ⟨EL2,EG2⟩:=gEi E2
 unfold Zj
 simp+decide [QP,Zb, Tryz.f21,Wu,Xs,C1,C1_,EL2,EG2,E2,C3,C4]
theorem Zsn(C3:¬v4<0)(C4:¬a1≤v4)(C5:0<(i_2:Int))(W6:InI ((i_2:Int)-1))(E7:a0.1[i_2-1]?=some (v5,q5))(Z7:1≤i_2)(C8:v4≤v5):
  Zj 0 (exec Tryz.prog (tab n) 0 59 (Za 21) big Xs) (Za 21 (Zo 2)) (QP a0 a1 i_2) (.ret) (Wu a0):=by
 have C1_:i_2<a0.1.length:=by omega
 obtain ⟨EL2,EG2⟩:=gEi E2
 have C5_:0<i_2:=by omega
 have C5_z:(i_2:Int)≠0:=by omega
 have C5_e:((i_2:Int)==0)=false:=by simpa using C5_z
 have C5_g:((i_2:Int) !=0)=true:=by simpa using C5_z
 have W6_:IntKind.i64.wrap ((i_2:Int)-1)=(i_2:Int)-1:=Zp W6.1 W6.2
 obtain ⟨EL7,EG7⟩:=gEi E7
 have Z7_0:(1:Int)≤(i_2:Int):=by omega
 have Z7_1:0≤(i_2:Int)-1:=by omega
 unfold Zj
 simp+decide [QP,Zb, Tryz.f21,Wu,Xs,C1,C1_,EL2,EG2,E2,C3,C4,C5,C5_,C5_e,C5_g,W6_,EL7,EG7,E7,Z7,Z7_0,Z7_1,C8]
theorem ZsC(C3:¬v4<0)(C4:¬a1≤v4)(C5:0<(i_2:Int))(W6:InI ((i_2:Int)-1))(E7:a0.1[i_2-1]?=some (v5,q5))(Z7:1≤i_2)(C8:¬v4≤v5)(B9a:H q4≤17179869184)(C10:sgR q4=0):
  Zj 0 (exec Tryz.prog (tab n) 0 59 (Za 21) big Xs) (Za 21 (Zo 2)) (QP a0 a1 i_2) (.ret) (Wu a0):=by
 have C1_:i_2<a0.1.length:=by omega
 obtain ⟨EL2,EG2⟩:=gEi E2
 have C5_:0<i_2:=by omega
 have C5_z:(i_2:Int)≠0:=by omega
 have C5_e:((i_2:Int)==0)=false:=by simpa using C5_z
 have C5_g:((i_2:Int) !=0)=true:=by simpa using C5_z
 have W6_:IntKind.i64.wrap ((i_2:Int)-1)=(i_2:Int)-1:=Zp W6.1 W6.2
 obtain ⟨EL7,EG7⟩:=gEi E7
 have Z7_0:(1:Int)≤(i_2:Int):=by omega
 have Z7_1:0≤(i_2:Int)-1:=by omega
 have K9:=ZN (p:=q4) B9a
 have C10_:(sgR q4==0)=true:=by rw [C10];simp
 have C10_n:(sgR q4 !=0)=false:=by rw [C10];simp
 unfold Zj
 simp+decide [QP,Zb, Tryz.f21,Wu,Xs,C1,C1_,EL2,EG2,E2,C3,C4,C5,C5_,C5_e,C5_g,W6_,EL7,EG7,E7,Z7,Z7_0,Z7_1,C8,K9,C10_,C10_n]
theorem ZuB(C3:¬v4<0)(C4:¬a1≤v4)(C5:¬0<(i_2:Int))(B6a:H q4≤17179869184)(C7:sgR q4=0):
  Zj 0 (exec Tryz.prog (tab n) 0 59 (Za 21) big Xs) (Za 21 (Zo 2)) (QP a0 a1 i_2) (.ret) (Wu a0):=by
 have C1_:i_2<a0.1.length:=by omega
 obtain ⟨EL2,EG2⟩:=gEi E2
 have C5_:¬0<i_2:=by omega
 have C5_z:(i_2:Int)=0:=by omega
 have C5_e:((i_2:Int)==0)=true:=by rw [C5_z];simp
 have C5_g:((i_2:Int) !=0)=false:=by rw [C5_z];simp
 have K6:=ZN (p:=q4) B6a
 have C7_:(sgR q4==0)=true:=by rw [C7];simp
 have C7_n:(sgR q4 !=0)=false:=by rw [C7];simp
 unfold Zj
 simp+decide [QP,Zb, Tryz.f21,Wu,Xs,C1,C1_,EL2,EG2,E2,C3,C4,C5,C5_,C5_e,C5_g,K6,C7_,C7_n]
end
theorem ZtP(C1:¬(i_2:Int)<(a0.1.length:Int)):
  Zj 0 (exec Tryz.prog (tab n) 0 59 (Za 21) big Xs) (Za 21 (Zo 2)) (QP a0 a1 i_2) (.exit 0) (Zdu a0):=by
 have C1_:¬i_2<a0.1.length:=by omega
 unfold Zj
 simp+decide [QP,Zb, Tryz.f21,Zdu,Xs,C1,C1_]
theorem ZyH(L1:Zl Tryz.prog (tab n) 0 59 (Za 21) 2 Xs (QP a0 a1 0)=some (.ret,Wu a0)):
  run n 21 [Zc a0,.lit (.int .i64 a1)]=some (.lit (.bool false)):=by
 unfold run fnP
 simp+decide [Tryz.f21]
 rw [Zi (C':=Xs) (e:=(QP a0 a1 0)) ?_ ?_,L1]
 rotate_left
 ·kernel_rfl
 ·simp+decide [QP]
 simp+decide [Wu]
theorem Zz7(L1:Zl Tryz.prog (tab n) 0 59 (Za 21) 2 Xs (QP a0 a1 0)=some (.exit 0,Zdu a0))(B2a:H a0.2≤17179869184):
  run n 21 [Zc a0,.lit (.int .i64 a1)]=some (.lit (.bool true)):=by
 have K2:=Jb (p:=a0.2) B2a
 unfold run fnP
 simp+decide [Tryz.f21,K2]
 rw [Zi (C':=Xs) (e:=(QP a0 a1 0)) ?_ ?_,L1]
 rotate_left
 ·kernel_rfl
 ·simp+decide [QP,K2]
 simp+decide [Zdu,K2]
end
end
section
open Go.RowKit
attribute [local irreducible] run Zr Zl exec
noncomputable def tv(p:Prop):Bool:=@decide p (Classical.propDecidable p)
theorem Xk{p:Prop}(h:p):tv p=true:=@decide_eq_true p (Classical.propDecidable p) h
theorem XJ{p:Prop}(h:¬p):tv p=false:=@decide_eq_false p (Classical.propDecidable p) h
theorem YS{p:Prop}(h:tv p=true):p:=@of_decide_eq_true p (Classical.propDecidable p) h
theorem Q3{p:Prop}(h:tv p=false):¬p:=@of_decide_eq_false p (Classical.propDecidable p) h
def ZxL(F:List (Int × Rat))(vars:Int)(i:Nat):Prop:=∀v c,F[i]?=some (v,c)→0≤v∧v<vars∧c≠0∧∀v' c',0<i→F[i-1]?=some (v',c')→v'<v
def OkFm(f:Zf)(vars:Int):Prop:=∀i,i<f.1.length→ZxL f.1 vars i
structure BdF (b:Nat) (f:Zf):Prop where
 l:f.1.length≤100000000
 t:∀t∈f.1,H t.2≤b
 k:H f.2≤b
theorem BdF.mono{b c:Nat}{f:Zf}(h:BdF b f)(hb:b≤c):BdF c f:=⟨h.l,fun t ht=>Nat.le_trans (h.t t ht) hb,Nat.le_trans h.k hb⟩
theorem ZhM{n:Nat}{f:Zf}{vars:Int}(hB:BdF 17179869184 f):run n 21 [Zc f,.lit (.int .i64 vars)]=some (.lit (.bool (tv (OkFm f vars)))):=by
 have hl:=hB.l
 have L:=Xb (O:=tab n) (P:= Tryz.prog) (m:=0) (N:=59) (lives:=Za 21) (r:=2) (C:=Xs) (M:=f.1.length) (enc:=QP f vars) (p:=fun i=>tv (ZxL f.1 vars i)) (exN:=.exit 0) (exE:=.ret) (out:=Zdu f) (outE:=Wu f) (by omega) (by simp) (by simp)
  (fun i hi hI=>by
   have hx:f.1[i]?=some f.1[i]:=gEt hi
   generalize f.1[i]=t at hx
   obtain ⟨v,c⟩:=t
   have hc:H c≤17179869184:=hB.t _ (gMe hx)
   have C1:(i:Int)<(f.1.length:Int):=by omega
   have W:InI ((i:Int)+1):=⟨by omega,by omega⟩
   have W2:InI ((i:Int)-1):=⟨by omega,by omega⟩
   have hs:sgR c=0↔c=0:=Yl
   by_cases h0:0<i
   ·have hy:f.1[i-1]?=some (f.1[i-1]'(by omega)):=gEt _
    generalize f.1[i-1]'(by omega)=t at hy
    obtain ⟨v',c'⟩:=t
    refine ⟨fun hp=>?_,fun hp=>?_⟩
    ·obtain ⟨a1,a2,a3,a4⟩:=YS hp v c hx
     have a5:=a4 v' c' h0 hy
     exact Zt4 C1 hx (by omega) (by omega) (by omega) W2 hy (by omega) (by omega) hc (fun h=>a3 (hs.1 h)) W
    ·by_cases b1:v<0
     ·exact Zi0 C1 hx b1
     ·by_cases b2:vars≤v
      ·exact Zj6 C1 hx b1 b2
      ·by_cases b3:v≤v'
       ·exact Zsn C1 hx b1 b2 (by omega) W2 hy (by omega) b3
       ·by_cases b4:c=0
        ·exact ZsC C1 hx b1 b2 (by omega) W2 hy (by omega) b3 hc (hs.2 b4)
        ·refine absurd (fun u d hu=>?_) (Q3 hp)
         rw [hx] at hu;cases hu
         exact ⟨by omega,by omega,b4,fun v2 c2 _ h2=>by rw [hy] at h2;cases h2;omega⟩
   ·refine ⟨fun hp=>?_,fun hp=>?_⟩
    ·obtain ⟨a1,a2,a3,a4⟩:=YS hp v c hx
     exact Zse C1 hx (by omega) (by omega) (by omega) hc (fun h=>a3 (hs.1 h)) W
    ·by_cases b1:v<0
     ·exact Zi0 C1 hx b1
     ·by_cases b2:vars≤v
      ·exact Zj6 C1 hx b1 b2
      ·by_cases b4:c=0
       ·exact ZuB C1 hx b1 b2 (by omega) hc (hs.2 b4)
       ·refine absurd (fun u d hu=>?_) (Q3 hp)
        rw [hx] at hu;cases hu
        exact ⟨by omega,by omega,b4,fun v2 c2 h2=>absurd h2 h0⟩)
  (ZtP (by omega))
 by_cases h:OkFm f vars
 ·rw [if_pos (fun i hi=>Xk (h i hi))] at L
  rw [Xk h]
  exact Zz7 L hB.k
 ·rw [if_neg (fun h2=>h fun i hi=>YS (h2 i hi))] at L
  rw [XJ h]
  exact ZyH L
end
section
open Go.RowKit
def Srt(F:List (Int × Rat)):Prop:=F.Pairwise (fun a b=>a.1<b.1)∧∀t∈F,t.2≠0
def LBd(k:Int)(F:List (Int × Rat)):Prop:=∀t∈F,k<t.1
def cof:List (Int × Rat)→Int→Rat
 | [],_=>0
 | t::l,u=>if t.1=u then t.2 else cof l u
theorem YO(u:Int):cof [] u=0:=rfl
theorem YZ{t:Int × Rat}{F:List (Int × Rat)}{u:Int}(h:u=t.1):cof (t::F) u=t.2:=by unfold cof;rw [if_pos h.symm]
theorem QS{t:Int × Rat}{F:List (Int × Rat)}{u:Int}(h:u≠t.1):cof (t::F) u=cof F u:=by rw [cof,if_neg fun e=>h e.symm]
theorem Srt.nil:Srt []:=⟨List.Pairwise.nil,fun t ht=>by cases ht⟩
theorem Srt.tail{t:Int × Rat}{F:List (Int × Rat)}(h:Srt (t::F)):Srt F:=⟨(List.pairwise_cons.1 h.1).2,fun u hu=>h.2 u (by simp [hu])⟩
theorem Srt.head{t:Int × Rat}{F:List (Int × Rat)}(h:Srt (t::F)):LBd t.1 F:=fun u hu=>(List.pairwise_cons.1 h.1).1 u hu
theorem Srt.nz{t:Int × Rat}{F:List (Int × Rat)}(h:Srt (t::F)):t.2≠0:=h.2 t (by simp)
theorem Vn:∀{F:List (Int × Rat)} {u:Int},(∀t∈F,t.1≠u)→cof F u=0
 | [],_,_=>rfl
 | t::F,u,h=>by rw [cof,if_neg (h t (by simp))];exact Vn fun x hx=>h x (by simp [hx])
theorem LBd.cof{F:List (Int × Rat)}{k u:Int}(h:LBd k F)(hu:u≤k):cof F u=0:=Vn fun t ht e=>by have:=h t ht;omega
theorem LBd.mono{F:List (Int × Rat)}{k j:Int}(h:LBd k F)(hj:j≤k):LBd j F:=fun t ht=>by have:=h t ht;omega
theorem Vl{F:List (Int × Rat)}{v:Int}{q:Rat}(h:Srt F)(hl:LBd v F):Srt (Ya v q++F)∧(∀u,cof (Ya v q++F) u=if u=v then q else cof F u)∧∀k,k<v→LBd k (Ya v q++F):=by
 unfold Ya
 split
 ·rename_i h0
  rw [List.nil_append]
  refine ⟨h,fun u=>?_,fun k hk=>hl.mono (by omega)⟩
  split
  ·rename_i e;subst e;rw [hl.cof (Int.le_refl _),h0]
  ·rfl
 ·rename_i h0
  refine ⟨⟨List.pairwise_cons.2 ⟨fun x hx=>hl x hx,h.1⟩,fun t ht=>?_⟩,fun u=>?_,fun k hk t ht=>?_⟩
  ·rcases List.mem_cons.1 ht with rfl|ht
   ·exact h0
   ·exact h.2 t ht
  ·show cof ((v,q)::F) u=_
   rw [cof]
   by_cases e:v=u
   ·rw [if_pos e,if_pos e.symm]
   ·rw [if_neg e,if_neg fun e2=>e e2.symm]
  ·rcases List.mem_cons.1 ht with rfl|ht
   ·exact hk
   ·have:=hl t ht;omega
theorem ZaY:∀{F G:List (Int × Rat)},Srt F→Srt G→(∀u,cof F u=cof G u)→F=G
 | [],[],_,_,_=>rfl
 | [],t::G,_,hg,h=>by
   have:=h t.1
   rw [YO,YZ rfl] at this
   exact absurd this.symm hg.nz
 | t::F,[],hf,_,h=>by
   have:=h t.1
   rw [YO,YZ rfl] at this
   exact absurd this hf.nz
 | (v,q)::F,(u,p)::G,hf,hg,h=>by
   have e:v=u:=by
    rcases Int.lt_trichotomy v u with h1|h1|h1
    ·have h2:=h v
     rw [YZ rfl,QS (by dsimp only;omega),hg.head.cof (by dsimp only;omega)] at h2
     exact absurd h2 hf.nz
    ·exact h1
    ·have h2:=h u
     rw [QS (by dsimp only;omega),hf.head.cof (by dsimp only;omega),YZ rfl] at h2
     exact absurd h2.symm hg.nz
   subst e
   have e2:q=p:=by
    have h2:=h v
    rw [YZ rfl,YZ rfl] at h2
    exact h2
   subst e2
   rw [ZaY hf.tail hg.tail fun u=>?_]
   by_cases e:u=v
   ·subst e
    rw [hf.head.cof (Int.le_refl _),hg.head.cof (Int.le_refl _)]
   ·have h2:=h u
    rw [QS e,QS e] at h2
    exact h2
theorem Jg{F:List (Int × Rat)}{v:Int}{c:Rat}(h:LBd v F)(hz:∀t∈F,t.2≠0):Z4 true F v c=F:=by
 induction F with
 | nil=>rfl
 | cons t F ih=>
   have h1:=h t (by simp)
   rw [Zdn (by omega) (.inl rfl),ih (fun x hx=>h x (by simp [hx])) fun x hx=>hz x (by simp [hx])]
   unfold Ya
   rw [if_neg (hz t (by simp))]
   rfl
theorem Zs5{t:Int × Rat}{F:List (Int × Rat)}(h:t.2≠0):Ya t.1 t.2++F=t::F:=by unfold Ya;rw [if_neg h];rfl
theorem Zdx{v:Int}{c:Rat}:∀{F:List (Int × Rat)},Srt F→Srt (Z4 false F v c)∧(∀u,cof (Z4 false F v c) u=cof F u+if u=v then c else 0)∧∀k,k<v→LBd k F→LBd k (Z4 false F v c)
 | [],h=>by
   have e:Z4 false [] v c=Ya v c++[]:=by rw [List.append_nil];rfl
   rw [e]
   obtain ⟨h1,h2,h3⟩:=Vl (v:=v) (q:=c) h (fun t ht=>by cases ht)
   refine ⟨h1,fun u=>?_,fun k hk _=>h3 k hk⟩
   rw [h2,YO]
   split <;>grind
 | t::F,h=>by
   have hd:=h.head
   rcases Int.lt_trichotomy t.1 v with h1|h1|h1
   ·obtain ⟨a1,a2,a3⟩:=Zdx (v:=v) (c:=c) h.tail
    rw [Zdn (by omega) (.inr h1)]
    obtain ⟨b1,b2,b3⟩:=Vl (v:=t.1) (q:=t.2) a1 (a3 _ h1 hd)
    refine ⟨b1,fun u=>?_,fun k hk hl=>b3 k (hl t (by simp))⟩
    rw [b2,a2]
    by_cases e:u=t.1
    ·rw [if_pos e,YZ e,if_neg (by omega)];grind
    ·rw [if_neg e,QS e]
   ·rw [Zhi h1,Jg (by rw [←h1];exact hd) h.tail.2]
    obtain ⟨b1,b2,b3⟩:=Vl (v:=t.1) (q:=t.2+c) h.tail hd
    refine ⟨b1,fun u=>?_,fun k hk hl=>b3 k (hl t (by simp))⟩
    rw [b2]
    by_cases e:u=t.1
    ·have e5:u=v:=by omega
     rw [if_pos e,if_pos e5,YZ e]
    ·have e5:¬u=v:=by omega
     rw [if_neg e,if_neg e5,QS e];grind
   ·rw [Zgg h1,Jg (hd.mono (by omega)) h.tail.2,Zs5 h.nz]
    obtain ⟨b1,b2,b3⟩:=Vl (v:=v) (q:=c) h (fun x hx=>by
     rcases List.mem_cons.1 hx with rfl|hx
     ·exact h1
     ·have:=hd x hx;omega)
    refine ⟨b1,fun u=>?_,fun k hk hl=>b3 k hk⟩
    rw [b2]
    by_cases e:u=v
    ·have e3:cof (t::F) u=0:=Vn fun x hx=>by
      rcases List.mem_cons.1 hx with rfl|hx
      ·omega
      ·have:=hd x hx;omega
     rw [if_pos e,if_pos e,e3]
     grind
    ·rw [if_neg e,if_neg e];grind
theorem Zar:∀{G F:List (Int × Rat)},Srt F→Srt G→Srt (Wp F G)∧∀u,cof (Wp F G) u=cof F u+cof G u
 | [],F,hf,_=>⟨hf,fun u=>by rw [YO];show cof F u=_;grind⟩
 | t::G,F,hf,hg=>by
   obtain ⟨a1,a2,_⟩:=Zdx (v:=t.1) (c:=t.2) hf
   obtain ⟨b1,b2⟩:=Zar a1 hg.tail
   refine ⟨b1,fun u=>?_⟩
   show cof (Wp (Z4 false F t.1 t.2) G) u=_
   rw [b2,a2]
   by_cases e:u=t.1
   ·rw [if_pos e,YZ e,hg.head.cof (by omega)];grind
   ·rw [if_neg e,QS e];grind
theorem Wy{c:Rat}:∀(n:Nat) {F G:List (Int × Rat)},F.length+G.length≤n→Srt F→Srt G→Srt (Yr F G c)∧(∀u,cof (Yr F G c) u=cof F u+cof G u*c)∧∀k,LBd k F→LBd k G→LBd k (Yr F G c)
 | n,[],[],_,hf,hg=>by rw [JZ];exact ⟨hf,fun u=>by rw [YO];grind,fun k h _=>h⟩
 | 0,a::F,G,hn,_,_=>by simp at hn
 | 0,[],b::G,hn,_,_=>by simp at hn
 | n+1,a::F,[],hn,hf,hg=>by
   obtain ⟨a1,a2,a3⟩:=Wy (c:=c) n (F:=F) (G:=[]) (by simp at hn ⊢;omega) hf.tail hg
   rw [Zf9]
   obtain ⟨b1,b2,b3⟩:=Vl (v:=a.1) (q:=a.2) a1 (a3 _ hf.head fun t ht=>by cases ht)
   refine ⟨b1,fun u=>?_,fun k h1 _=>b3 k (h1 a (by simp))⟩
   rw [b2,a2]
   by_cases e:u=a.1
   ·rw [if_pos e,YZ e,YO];grind
   ·rw [if_neg e,QS e]
 | n+1,[],b::G,hn,hf,hg=>by
   obtain ⟨a1,a2,a3⟩:=Wy (c:=c) n (F:=[]) (G:=G) (by simp at hn ⊢;omega) hf hg.tail
   rw [ZcM]
   obtain ⟨b1,b2,b3⟩:=Vl (v:=b.1) (q:=b.2*c) a1 (a3 _ (fun t ht=>by cases ht) hg.head)
   refine ⟨b1,fun u=>?_,fun k _ h1=>b3 k (h1 b (by simp))⟩
   rw [b2,a2]
   by_cases e:u=b.1
   ·rw [if_pos e,YZ e,YO];grind
   ·rw [if_neg e,QS e]
 | n+1,a::F,b::G,hn,hf,hg=>by
   simp only [List.length_cons] at hn
   rcases Int.lt_trichotomy a.1 b.1 with h1|h1|h1
   ·obtain ⟨a1,a2,a3⟩:=Wy (c:=c) n (F:=F) (G:=b::G) (by simp;omega) hf.tail hg
    rw [Zem h1]
    obtain ⟨b1,b2,b3⟩:=Vl (v:=a.1) (q:=a.2) a1 (a3 _ hf.head fun t ht=>by
     rcases List.mem_cons.1 ht with rfl|ht
     ·exact h1
     ·have:=hg.head t ht;omega)
    refine ⟨b1,fun u=>?_,fun k h2 _=>b3 k (h2 a (by simp))⟩
    rw [b2,a2]
    by_cases e:u=a.1
    ·have e3:cof (b::G) u=0:=Vn fun x hx=>by
      rcases List.mem_cons.1 hx with rfl|hx
      ·omega
      ·have:=hg.head x hx;omega
     have e4:cof (a::F) u=a.2:=YZ e
     rw [if_pos e,e3,e4];grind
    ·have e4:cof (a::F) u=cof F u:=QS e
     rw [if_neg e,e4]
   ·obtain ⟨a1,a2,a3⟩:=Wy (c:=c) n (F:=F) (G:=G) (by omega) hf.tail hg.tail
    rw [Zet h1]
    obtain ⟨b1,b2,b3⟩:=Vl (v:=a.1) (q:=a.2+b.2*c) a1 (a3 _ hf.head (by rw [h1];exact hg.head))
    refine ⟨b1,fun u=>?_,fun k h2 _=>b3 k (h2 a (by simp))⟩
    rw [b2,a2]
    by_cases e:u=a.1
    ·rw [if_pos e,YZ e,YZ (u:=u) (by omega)]
    ·have e3:cof (b::G) u=cof G u:=QS (by omega)
     have e4:cof (a::F) u=cof F u:=QS e
     rw [if_neg e,e3,e4]
   ·obtain ⟨a1,a2,a3⟩:=Wy (c:=c) n (F:=a::F) (G:=G) (by simp;omega) hf hg.tail
    rw [ZeO h1]
    obtain ⟨b1,b2,b3⟩:=Vl (v:=b.1) (q:=b.2*c) a1 (a3 _ (fun t ht=>by
     rcases List.mem_cons.1 ht with rfl|ht
     ·exact h1
     ·have:=hf.head t ht;omega) hg.head)
    refine ⟨b1,fun u=>?_,fun k _ h2=>b3 k (h2 b (by simp))⟩
    rw [b2,a2]
    by_cases e:u=b.1
    ·have e3:cof (a::F) u=0:=Vn fun x hx=>by
      rcases List.mem_cons.1 hx with rfl|hx
      ·omega
      ·have:=hf.head x hx;omega
     have e4:cof (b::G) u=b.2:=YZ e
     rw [if_pos e,e3,e4];grind
    ·have e4:cof (b::G) u=cof G u:=QS e
     rw [if_neg e,e4]
theorem Uq(c:Rat):∀(F:List (Int × Rat)),Yr [] F c=Yh F c
 | []=>JZ c
 | t::F=>by rw [ZcM,Uq c F];simp [Yh]
theorem YP{F:List (Int × Rat)}{c:Rat}(h:Srt F):Srt (Yh F c)∧∀u,cof (Yh F c) u=cof F u*c:=by
 rw [←Uq]
 obtain ⟨a1,a2,_⟩:=Wy (c:=c) _ (Nat.le_refl _) Srt.nil h
 exact ⟨a1,fun u=>by rw [a2,YO];grind⟩
theorem ZeC{F G:List (Int × Rat)}{c:Rat}(hf:Srt F)(hg:Srt G):Yr F G c=Wp F (Yh G c):=by
 obtain ⟨a1,a2,_⟩:=Wy (c:=c) _ (Nat.le_refl _) hf hg
 obtain ⟨b1,b2⟩:=YP (c:=c) hg
 obtain ⟨d1,d2⟩:=Zar hf b1
 exact ZaY a1 d1 fun u=>by rw [a2,d2,b2]
theorem ZtF{F:List (Int × Rat)}(h:Srt F):Yh F 1=F:=ZaY (YP h).1 h fun u=>by rw [(YP h).2];grind
theorem OkFm.srt{f:Zf}{vars:Int}(h:OkFm f vars):Srt f.1∧∀t∈f.1,0≤t.1∧t.1<vars:=by
 have key:∀(i:Nat) (hi:i<f.1.length),0≤(f.1[i]).1∧(f.1[i]).1<vars∧(f.1[i]).2≠0∧∀(h0:0<i),(f.1[i-1]'(by omega)).1<(f.1[i]).1:=fun i hi=>by
  obtain ⟨a1,a2,a3,a4⟩:=h i hi (f.1[i]).1 (f.1[i]).2 (gEt hi)
  exact ⟨a1,a2,a3,fun h0=>a4 _ (f.1[i-1]'(by omega)).2 h0 (gEt _)⟩
 have ord:∀(j i:Nat) (hj:j<f.1.length) (hij:i<j),(f.1[i]'(by omega)).1<(f.1[j]).1:=fun j=>by
  induction j with
  | zero=>intro i hj hij;omega
  | succ j ih=>
    intro i hj hij
    have h1:=(key (j+1) hj).2.2.2 (by omega)
    have h2:(f.1[j+1-1]'(by omega))=f.1[j]'(by omega):=rfl
    rw [h2] at h1
    by_cases e:i=j
    ·subst e;exact h1
    ·have:=ih i (by omega) (by omega);omega
 refine ⟨⟨List.pairwise_iff_getElem.2 fun i j hi hj hij=>ord j i hj hij,fun t ht=>?_⟩,fun t ht=>?_⟩
 ·obtain ⟨i,hi,rfl⟩:=List.getElem_of_mem ht
  exact (key i hi).2.2.1
 ·obtain ⟨i,hi,rfl⟩:=List.getElem_of_mem ht
  exact ⟨(key i hi).1,(key i hi).2.1⟩
end
section
open Go.RowKit
attribute [local irreducible] run Zr Zl exec
end
section
open Go.RowKit
def evS(X:List Rat):List (Int × Rat)→Rat
 | []=>0
 | t::F=>t.2*X.getD t.1.toNat 0+evS X F
theorem Jo(X:List Rat):∀(F G:List (Int × Rat)),evS X (F++G)=evS X F+evS X G
 | [],G=>by rw [List.nil_append,evS];grind
 | t::F,G=>by rw [List.cons_append,evS,Jo X F G,evS];grind
theorem Jr(X:List Rat)(v:Int)(q:Rat):evS X (Ya v q)=q*X.getD v.toNat 0:=by
 unfold Ya
 split
 ·rename_i h;rw [h,evS];grind
 ·rw [evS,evS];grind
theorem Zht{X:List Rat}{v:Int}{c:Rat}:∀{F:List (Int × Rat)},Srt F→evS X (Z4 false F v c)=evS X F+c*X.getD v.toNat 0
 | [],_=>by
   have e:Z4 false [] v c=Ya v c:=rfl
   rw [e,Jr,evS];grind
 | t::F,h=>by
   have hd:=h.head
   rcases Int.lt_trichotomy t.1 v with h1|h1|h1
   ·rw [Zdn (by omega) (.inr h1),Jo,Jr,Zht h.tail,evS];grind
   ·rw [Zhi h1,Jg (by rw [←h1];exact hd) h.tail.2,Jo,Jr,evS,h1];grind
   ·rw [Zgg h1,Jg (hd.mono (by omega)) h.tail.2,Jo,Jo,Jr,Jr,evS];grind
theorem Zi7{X:List Rat}:∀{G F:List (Int × Rat)},Srt F→Srt G→evS X (Wp F G)=evS X F+evS X G
 | [],F,_,_=>by
   have e:Wp F []=F:=rfl
   rw [e,evS];grind
 | t::G,F,hf,hg=>by
   have e:Wp F (t::G)=Wp (Z4 false F t.1 t.2) G:=rfl
   rw [e,Zi7 (Zdx hf).1 hg.tail,Zht hf,evS];grind
theorem Zcn(X:List Rat)(c:Rat):∀(F:List (Int × Rat)),evS X (Yh F c)=evS X F*c
 | []=>by
   have e:Yh [] c=[]:=rfl
   rw [e,evS];grind
 | t::F=>by
   have e:Yh (t::F) c=Ya t.1 (t.2*c)++Yh F c:=rfl
   rw [e,Jo,Jr,Zcn X c F,evS];grind
def InR(k:Nat)(F:List (Int × Rat)):Prop:=∀t∈F,0≤t.1∧t.1<(k:Int)
theorem InR.app{k:Nat}{F G:List (Int × Rat)}(h:InR k F)(g:InR k G):InR k (F++G):=fun t ht=>(List.mem_append.1 ht).elim (h t) (g t)
theorem InR.put{k:Nat}{v:Int}{q:Rat}(h:0≤v∧v<(k:Int)):InR k (Ya v q):=fun t ht=>by
 obtain ⟨rfl,_⟩:=ZaR ht
 exact h
theorem InR.plus{k:Nat}{v:Int}{c:Rat}(hv:0≤v∧v<(k:Int)):∀{d:Bool} {F:List (Int × Rat)},InR k F→InR k (Z4 d F v c)
 | d,[],_=>by
   rw [Z4]
   split
   ·exact fun t ht=>by cases ht
   ·exact InR.put hv
 | d,t::F,h=>by
   have ht:0≤t.1∧t.1<(k:Int):=h t (by simp)
   have hF:InR k F:=fun u hu=>h u (by simp [hu])
   rw [Z4]
   split
   ·exact (InR.put ht).app (InR.plus hv hF)
   ·split
    ·exact (InR.put hv).app ((InR.put ht).app (InR.plus hv hF))
    ·exact (InR.put ht).app (InR.plus hv hF)
theorem InR.add{k:Nat}:∀{G F:List (Int × Rat)},InR k F→InR k G→InR k (Wp F G)
 | [],F,h,_=>h
 | t::G,F,h,g=>by
   have e:Wp F (t::G)=Wp (Z4 false F t.1 t.2) G:=rfl
   rw [e]
   exact InR.add (InR.plus (g t (by simp)) h) fun u hu=>g u (by simp [hu])
theorem InR.scl{k:Nat}{c:Rat}{F:List (Int × Rat)}(h:InR k F):InR k (Yh F c):=fun t ht=>by
 simp only [Yh,List.mem_flatMap] at ht
 obtain ⟨u,hu,h1⟩:=ht
 obtain ⟨rfl,_⟩:=ZaR h1
 exact h u hu
theorem TmB.add{b:Nat}:∀{G F:List (Int × Rat)} {m:Nat},TmB m F→TmB b G→TmB (m+(b+1)*G.length) (Wp F G)
 | [],F,m,h,_=>h
 | t::G,F,m,h,g=>by
   have e:Wp F (t::G)=Wp (Z4 false F t.1 t.2) G:=rfl
   rw [e]
   refine (TmB.add (TmB.plus (g t (by simp)).2 h) fun u hu=>g u (by simp [hu])).mono ?_
   rw [List.length_cons,Nat.mul_add]
   omega
theorem ZgD:∀(G F:List (Int × Rat)),(Wp F G).length≤F.length+G.length
 | [],F=>by have e:Wp F []=F:=rfl;rw [e];simp
 | t::G,F=>by
   have e:Wp F (t::G)=Wp (Z4 false F t.1 t.2) G:=rfl
   have h1:=ZgD G (Z4 false F t.1 t.2)
   have h2:=Uj false F t.1 t.2
   rw [e,List.length_cons]
   omega
theorem TmB.scl{m b:Nat}{c:Rat}{F:List (Int × Rat)}(h:TmB m F)(hc:H c≤b):TmB (m+b) (Yh F c):=fun t ht=>by
 simp only [Yh,List.mem_flatMap] at ht
 obtain ⟨u,hu,h1⟩:=ht
 obtain ⟨rfl,h2⟩:=ZaR h1
 have h3:=Kk u.2 c
 have h4:=(h u hu).2
 exact ⟨h2,by dsimp only;omega⟩
def sgQ(q:Rat):Rat:=if 0<q then 1 else if q<0 then -1 else 0
def Y0(q:Rat):Rat:=if q<0 then -q else q
theorem Wh{q:Rat}(h:q≠0):0<Y0 q:=by
 unfold Y0
 split <;>grind
def Zv(f:Zf):Zf:=match f.1 with
 | []=>([],sgQ f.2)
 | t::_=>(Yh f.1 (1 / Y0 t.2),f.2*(1 / Y0 t.2))
theorem KR{c:Rat}(h:0<c):0<1 / c:=by
 rw [Rat.div_def,Rat.one_mul]
 exact Rat.inv_pos.2 h
theorem ZfL{x c:Rat}(h:0<c):(0<x*c↔0<x)∧(x*c<0↔x<0):=by
 refine ⟨⟨fun hx=>?_,fun hx=>Rat.mul_pos hx h⟩,⟨fun hx=>?_,fun hx=>?_⟩⟩
 ·false_or_by_contra
  have h0:0≤-x:=by grind
  have:=Rat.mul_nonneg h0 (show 0≤c by grind)
  grind
 ·false_or_by_contra
  have h0:0≤x:=by grind
  have:=Rat.mul_nonneg h0 (show 0≤c by grind)
  grind
 ·have:=Rat.mul_pos (show 0 < -x by grind) h
  grind
theorem Zfb{v:Int}{q:Rat}(h:q≠0):Ya v q=[(v,q)]:=by
 unfold Ya
 rw [if_neg h]
theorem Ze6{c:Rat}(hc:c≠0):∀{F:List (Int × Rat)},(∀t∈F,t.2≠0)→Yh F c=F.map fun t=>(t.1,t.2*c)
 | [],_=>rfl
 | t::F,h=>by
   have e:Yh (t::F) c=Ya t.1 (t.2*c)++Yh F c:=rfl
   have h1:=h t List.mem_cons_self
   have h2:t.2*c≠0:=fun h0=>by
    rcases Rat.mul_eq_zero.1 h0 with h3|h3
    ·exact h1 h3
    ·exact hc h3
   rw [e,Zfb h2,Ze6 hc fun u hu=>h u (List.mem_cons_of_mem _ hu)]
   rfl
theorem Zbd{f:Zf}{k:Nat}(h:∀t∈f.1,t.2≠0):InR k (Zv f).1↔InR k f.1:=by
 obtain ⟨F,q⟩:=f
 cases F with
 | nil=>exact Iff.rfl
 | cons t F=>
   have hp:=KR (Wh (h t List.mem_cons_self))
   have e:(Zv (t::F,q)).1=(t::F).map fun u=>(u.1,u.2*(1 / Y0 t.2)):=Ze6 (fun e=>by rw [e] at hp;exact absurd hp (by decide)) h
   rw [e]
   unfold InR
   constructor
   ·intro h1 u hu
    exact h1 (u.1,u.2*(1 / Y0 t.2)) (List.mem_map.2 ⟨u,hu,rfl⟩)
   ·intro h1 u hu
    obtain ⟨w,hw,rfl⟩:=List.mem_map.1 hu
    exact h1 w hw
theorem ZoG(X:List Rat)(f:Zf)(h:∀t∈f.1,t.2≠0):(0<(Zv f).2+evS X (Zv f).1↔0<f.2+evS X f.1)∧((Zv f).2+evS X (Zv f).1<0↔f.2+evS X f.1<0):=by
 obtain ⟨F,q⟩:=f
 cases F with
 | nil=>
   have e:Zv (([],q):Zf)=([],sgQ q):=rfl
   rw [e]
   show (0<sgQ q+0↔0<q+0)∧(sgQ q+0<0↔q+0<0)
   unfold sgQ
   by_cases h1:0<q
   ·rw [if_pos h1];grind
   ·by_cases h2:q<0
    ·rw [if_neg h1,if_pos h2];grind
    ·rw [if_neg h1,if_neg h2];grind
 | cons t F=>
   have hp:=KR (Wh (h t List.mem_cons_self))
   have e:Zv ((t::F,q):Zf)=(Yh (t::F) (1 / Y0 t.2),q*(1 / Y0 t.2)):=rfl
   rw [e]
   dsimp only
   rw [Zcn]
   generalize 1 / Y0 t.2=c at hp
   generalize evS X (t::F)=s
   have e2:q*c+s*c=(q+s)*c:=by grind
   rw [e2]
   exact ZfL hp
def Xn(X:List Rat)(f:Zf):Rat:=f.2+evS X f.1
def ZU(l:List Zf)(f:Zf):List Zf:=if (Zv f).1=[]∧0≤(Zv f).2 then l else if Zv f∈l then l else l++[Zv f]
def YC(v:Int)(f g:Zf):Zf:=(Wp (Yh f.1 (-cof g.1 v)) (Yh g.1 (cof f.1 v)),f.2*(-cof g.1 v)+g.2*cof f.1 v)
def Q6(v:Int)(rows:List Zf):List Zf:=rows.filter fun f=>decide (cof f.1 v=0)
def upL(v:Int)(rows:List Zf):List Zf:=rows.filter fun f=>decide (0<cof f.1 v)
def Q0(v:Int)(rows:List Zf):List Zf:=rows.filter fun f=>decide (cof f.1 v<0)
def Zck(v:Int)(rows:List Zf):List Zf:=Q6 v rows++(upL v rows).flatMap fun f=>(Q0 v rows).map (YC v f)
def Qh(v:Int)(rows:List Zf):List Zf:=(Zck v rows).foldl ZU []
def KQ(X:List Rat)(l:List Zf):Prop:=∀f∈l,InR X.length f.1∧0≤Xn X f
theorem Zsl{X:List Rat}{l:List Zf}{f:Zf}(h:∀t∈f.1,t.2≠0)(hi:InR X.length f.1):KQ X (ZU l f)↔KQ X l∧0≤Xn X f:=by
 have hn:=(Zbd (k:=X.length) h).2 hi
 obtain ⟨_,hv⟩:=ZoG X f h
 have hv':0≤Xn X (Zv f)↔0≤Xn X f:=by
  unfold Xn
  constructor
  ·intro h1
   false_or_by_contra
   have:=hv.2 (by grind)
   grind
  ·intro h1
   false_or_by_contra
   have:=hv.1 (by grind)
   grind
 unfold ZU
 split
 ·rename_i hc
  have h0:0≤Xn X (Zv f):=by
   unfold Xn
   rw [hc.1]
   show 0≤(Zv f).2+0
   have:=hc.2
   grind
  exact ⟨fun s=>⟨s,hv'.1 h0⟩,fun s=>s.1⟩
 split
 ·rename_i hm
  exact ⟨fun s=>⟨s,hv'.1 (s _ hm).2⟩,fun s=>s.1⟩
 ·constructor
  ·intro s
   exact ⟨fun g hg=>s g (List.mem_append_left _ hg),hv'.1 (s _ (List.mem_append_right _ List.mem_cons_self)).2⟩
  ·rintro ⟨s,h0⟩ g hg
   rcases List.mem_append.1 hg with h1|h1
   ·exact s g h1
   ·rw [List.mem_singleton.1 h1]
    exact ⟨hn,hv'.2 h0⟩
theorem Zde{X:List Rat}:∀(R l:List Zf),(∀f∈R,(∀t∈f.1,t.2≠0)∧InR X.length f.1)→(KQ X (R.foldl ZU l)↔KQ X l∧∀f∈R,0≤Xn X f)
 | [],l,_=>⟨fun s=>⟨s,fun f hf=>(by cases hf)⟩,fun s=>s.1⟩
 | f::R,l,h=>by
   have h1:=h f List.mem_cons_self
   rw [List.foldl_cons,Zde R _ fun g hg=>h g (List.mem_cons_of_mem _ hg),Zsl h1.1 h1.2]
   constructor
   ·rintro ⟨⟨a,b⟩,c⟩
    exact ⟨a,fun g hg=>by
     rcases List.mem_cons.1 hg with rfl|hg
     ·exact b
     ·exact c g hg⟩
   ·rintro ⟨a,b⟩
    exact ⟨⟨a,b f List.mem_cons_self⟩,fun g hg=>b g (List.mem_cons_of_mem _ hg)⟩
theorem WX{v:Int}{f g:Zf}(hf:Srt f.1)(hg:Srt g.1):Srt (YC v f g).1∧∀u,cof (YC v f g).1 u=cof f.1 u*(-cof g.1 v)+cof g.1 u*cof f.1 v:=by
 obtain ⟨a1,a2⟩:=YP (c:=-cof g.1 v) hf
 obtain ⟨b1,b2⟩:=YP (c:=cof f.1 v) hg
 obtain ⟨c1,c2⟩:=Zar a1 b1
 exact ⟨c1,fun u=>by
  have:=c2 u
  rw [a2,b2] at this
  exact this⟩
theorem ZhK{X:List Rat}{v:Int}{f g:Zf}(hf:Srt f.1)(hg:Srt g.1):Xn X (YC v f g)=Xn X f*(-cof g.1 v)+Xn X g*cof f.1 v:=by
 unfold Xn YC
 dsimp only
 rw [Zi7 (YP hf).1 (YP hg).1,Zcn,Zcn]
 grind
theorem Zja{k:Nat}{v:Int}{f g:Zf}(hf:InR k f.1)(hg:InR k g.1):InR k (YC v f g).1:=InR.add hf.scl hg.scl
theorem ZhR{X:List Rat}{v:Int}{rows:List Zf}(h:∀f∈rows,Srt f.1∧InR X.length f.1):
  KQ X (Qh v rows)↔(∀f∈rows,cof f.1 v=0→0≤Xn X f)∧∀f∈rows,∀g∈rows,0<cof f.1 v→cof g.1 v<0→0≤Xn X f*(-cof g.1 v)+Xn X g*cof f.1 v:=by
 unfold Qh
 rw [Zde]
 ·constructor
  ·rintro ⟨_,a⟩
   refine ⟨fun f hf h0=>a f (List.mem_append_left _ (List.mem_filter.2 ⟨hf,decide_eq_true h0⟩)),fun f hf g hg h1 h2=>?_⟩
   rw [←ZhK (h f hf).1 (h g hg).1]
   exact a _ (List.mem_append_right _ (List.mem_flatMap.2 ⟨f,List.mem_filter.2 ⟨hf,decide_eq_true h1⟩,List.mem_map.2 ⟨g,List.mem_filter.2 ⟨hg,decide_eq_true h2⟩,rfl⟩⟩))
  ·rintro ⟨a,b⟩
   refine ⟨fun f hf=>(by cases hf),fun e he=>?_⟩
   rcases List.mem_append.1 he with h1|h1
   ·obtain ⟨h2,h3⟩:=List.mem_filter.1 h1
    exact a e h2 (of_decide_eq_true h3)
   ·obtain ⟨f,h2,h3⟩:=List.mem_flatMap.1 h1
    obtain ⟨g,h4,rfl⟩:=List.mem_map.1 h3
    obtain ⟨hf,hf1⟩:=List.mem_filter.1 h2
    obtain ⟨hg,hg1⟩:=List.mem_filter.1 h4
    rw [ZhK (h f hf).1 (h g hg).1]
    exact b f hf g hg (of_decide_eq_true hf1) (of_decide_eq_true hg1)
 ·intro e he
  rcases List.mem_append.1 he with h1|h1
  ·have h2:=h e (List.mem_filter.1 h1).1
   exact ⟨h2.1.2,h2.2⟩
  ·obtain ⟨f,h2,h3⟩:=List.mem_flatMap.1 h1
   obtain ⟨g,h4,rfl⟩:=List.mem_map.1 h3
   have hf:=h f (List.mem_filter.1 h2).1
   have hg:=h g (List.mem_filter.1 h4).1
   exact ⟨(WX hf.1 hg.1).1.2,Zja hf.2 hg.2⟩
theorem Zj1{X:List Rat}{v:Nat}(hv:v<X.length):∀{F:List (Int × Rat)},Srt F→(∀t∈F,0≤t.1)→evS (X.set v 0) F=evS X F-cof F (v:Int)*X.getD v 0
 | [],_,_=>by rw [evS,evS,YO];grind
 | t::F,h,h0=>by
   have ht:=h0 t List.mem_cons_self
   have ih:=Zj1 hv h.tail fun u hu=>h0 u (List.mem_cons_of_mem _ hu)
   rw [evS,evS,ih]
   by_cases e:t.1=(v:Int)
   ·have hc:cof F (v:Int)=0:=Vn fun u hu=>by
     have:=h.head u hu
     omega
    have e2:t.1.toNat=v:=by omega
    rw [YZ e.symm,hc,e2]
    have e3:(X.set v 0).getD v 0=0:=by simp [List.getD,hv]
    rw [e3]
    grind
   ·rw [QS (fun x=>e x.symm)]
    have e3:(X.set v 0).getD t.1.toNat 0=X.getD t.1.toNat 0:=by
     simp only [List.getD]
     rw [List.getElem?_set_ne (by omega)]
    rw [e3]
    grind
def ZdA(X:List Rat)(v:Nat)(f:Zf):Rat:=Xn (X.set v 0) f
def bdX(X:List Rat)(v:Nat)(f:Zf):Rat:=-ZdA X v f / cof f.1 (v:Int)
structure BdI (X:List Rat) (v:Nat) (P:List Zf) (ok low high:Bool) (lo hi:Rat):Prop where
 okI:ok=true↔∀f∈P,cof f.1 (v:Int)=0→0≤ZdA X v f
 lowI:low=true↔∃f∈P,0<cof f.1 (v:Int)
 highI:high=true↔∃f∈P,cof f.1 (v:Int)<0
 loI:low=true→(∃f∈P,0<cof f.1 (v:Int)∧lo=bdX X v f)∧∀f∈P,0<cof f.1 (v:Int)→bdX X v f≤lo
 hiI:high=true→(∃f∈P,cof f.1 (v:Int)<0∧hi=bdX X v f)∧∀f∈P,cof f.1 (v:Int)<0→hi≤bdX X v f
theorem BdI.nil(X:List Rat)(v:Nat)(lo hi:Rat):BdI X v [] true false false lo hi:=
 ⟨by simp,by simp,by simp,fun h=>(by cases h),fun h=>(by cases h)⟩
theorem Zt{P:List Zf}{f g:Zf}:g∈P++[f]↔g∈P∨g=f:=by simp
theorem BdI.zero{X:List Rat}{v:Nat}{P:List Zf}{ok low high:Bool}{lo hi:Rat}{f:Zf}(I:BdI X v P ok low high lo hi)(h:cof f.1 (v:Int)=0):BdI X v (P++[f]) (ok && decide (0≤ZdA X v f)) low high lo hi where
 okI:=by
  rw [Bool.and_eq_true,I.okI,decide_eq_true_iff]
  constructor
  ·rintro ⟨a,b⟩ g hg h0
   rcases Zt.1 hg with h1|rfl
   ·exact a g h1 h0
   ·exact b
  ·intro a
   exact ⟨fun g hg=>a g (Zt.2 (.inl hg)),a f (Zt.2 (.inr rfl)) h⟩
 lowI:=by
  rw [I.lowI]
  constructor
  ·rintro ⟨g,hg,h1⟩;exact ⟨g,Zt.2 (.inl hg),h1⟩
  ·rintro ⟨g,hg,h1⟩
   rcases Zt.1 hg with h2|rfl
   ·exact ⟨g,h2,h1⟩
   ·rw [h] at h1;exact absurd h1 (by decide)
 highI:=by
  rw [I.highI]
  constructor
  ·rintro ⟨g,hg,h1⟩;exact ⟨g,Zt.2 (.inl hg),h1⟩
  ·rintro ⟨g,hg,h1⟩
   rcases Zt.1 hg with h2|rfl
   ·exact ⟨g,h2,h1⟩
   ·rw [h] at h1;exact absurd h1 (by decide)
 loI:=fun hl=>by
  obtain ⟨⟨g,hg,h1⟩,a⟩:=I.loI hl
  refine ⟨⟨g,Zt.2 (.inl hg),h1⟩,fun g hg h2=>?_⟩
  rcases Zt.1 hg with h3|rfl
  ·exact a g h3 h2
  ·rw [h] at h2;exact absurd h2 (by decide)
 hiI:=fun hl=>by
  obtain ⟨⟨g,hg,h1⟩,a⟩:=I.hiI hl
  refine ⟨⟨g,Zt.2 (.inl hg),h1⟩,fun g hg h2=>?_⟩
  rcases Zt.1 hg with h3|rfl
  ·exact a g h3 h2
  ·rw [h] at h2;exact absurd h2 (by decide)
theorem BdI.up{X:List Rat}{v:Nat}{P:List Zf}{ok low high:Bool}{lo hi lo2:Rat}{f:Zf}(I:BdI X v P ok low high lo hi)(h:0<cof f.1 (v:Int))(h2:(low=false∨lo<bdX X v f)∧lo2=bdX X v f∨low=true∧bdX X v f≤lo∧lo2=lo):BdI X v (P++[f]) ok true high lo2 hi where
 okI:=by
  rw [I.okI]
  constructor
  ·intro a g hg h0
   rcases Zt.1 hg with h1|rfl
   ·exact a g h1 h0
   ·rw [h0] at h;exact absurd h (by decide)
  ·intro a g hg
   exact a g (Zt.2 (.inl hg))
 lowI:=⟨fun _=>⟨f,Zt.2 (.inr rfl),h⟩,fun _=>rfl⟩
 highI:=by
  rw [I.highI]
  constructor
  ·rintro ⟨g,hg,h1⟩;exact ⟨g,Zt.2 (.inl hg),h1⟩
  ·rintro ⟨g,hg,h1⟩
   rcases Zt.1 hg with h3|rfl
   ·exact ⟨g,h3,h1⟩
   ·grind
 loI:=fun _=>by
  rcases h2 with ⟨h3,rfl⟩|⟨hl,h3,rfl⟩
  ·refine ⟨⟨f,Zt.2 (.inr rfl),h,rfl⟩,fun g hg h4=>?_⟩
   rcases Zt.1 hg with h5|rfl
   ·have hl:low=true:=I.lowI.2 ⟨g,h5,h4⟩
    have:=(I.loI hl).2 g h5 h4
    rcases h3 with h3|h3
    ·rw [hl] at h3;cases h3
    ·grind
   ·exact Rat.le_refl
  ·obtain ⟨⟨g,hg,h1⟩,a⟩:=I.loI hl
   refine ⟨⟨g,Zt.2 (.inl hg),h1⟩,fun g hg h4=>?_⟩
   rcases Zt.1 hg with h5|rfl
   ·exact a g h5 h4
   ·exact h3
 hiI:=fun hl=>by
  obtain ⟨⟨g,hg,h1⟩,a⟩:=I.hiI hl
  refine ⟨⟨g,Zt.2 (.inl hg),h1⟩,fun g hg h4=>?_⟩
  rcases Zt.1 hg with h5|rfl
  ·exact a g h5 h4
  ·grind
theorem BdI.down{X:List Rat}{v:Nat}{P:List Zf}{ok low high:Bool}{lo hi hi2:Rat}{f:Zf}(I:BdI X v P ok low high lo hi)(h:cof f.1 (v:Int)<0)(h2:(high=false∨bdX X v f<hi)∧hi2=bdX X v f∨high=true∧hi≤bdX X v f∧hi2=hi):BdI X v (P++[f]) ok low true lo hi2 where
 okI:=by
  rw [I.okI]
  constructor
  ·intro a g hg h0
   rcases Zt.1 hg with h1|rfl
   ·exact a g h1 h0
   ·rw [h0] at h;exact absurd h (by decide)
  ·intro a g hg
   exact a g (Zt.2 (.inl hg))
 highI:=⟨fun _=>⟨f,Zt.2 (.inr rfl),h⟩,fun _=>rfl⟩
 lowI:=by
  rw [I.lowI]
  constructor
  ·rintro ⟨g,hg,h1⟩;exact ⟨g,Zt.2 (.inl hg),h1⟩
  ·rintro ⟨g,hg,h1⟩
   rcases Zt.1 hg with h3|rfl
   ·exact ⟨g,h3,h1⟩
   ·grind
 hiI:=fun _=>by
  rcases h2 with ⟨h3,rfl⟩|⟨hl,h3,rfl⟩
  ·refine ⟨⟨f,Zt.2 (.inr rfl),h,rfl⟩,fun g hg h4=>?_⟩
   rcases Zt.1 hg with h5|rfl
   ·have hl:high=true:=I.highI.2 ⟨g,h5,h4⟩
    have:=(I.hiI hl).2 g h5 h4
    rcases h3 with h3|h3
    ·rw [hl] at h3;cases h3
    ·grind
   ·exact Rat.le_refl
  ·obtain ⟨⟨g,hg,h1⟩,a⟩:=I.hiI hl
   refine ⟨⟨g,Zt.2 (.inl hg),h1⟩,fun g hg h4=>?_⟩
   rcases Zt.1 hg with h5|rfl
   ·exact a g h5 h4
   ·exact h3
 loI:=fun hl=>by
  obtain ⟨⟨g,hg,h1⟩,a⟩:=I.loI hl
  refine ⟨⟨g,Zt.2 (.inl hg),h1⟩,fun g hg h4=>?_⟩
  rcases Zt.1 hg with h5|rfl
  ·exact a g h5 h4
  ·grind
theorem ZtU{a b r s:Rat}(ha:0<a)(hb:b<0):(-r / a≤-s / b↔0≤r*(-b)+s*a):=by
 have h1:-r / a*a=-r:=Rat.div_mul_cancel (by grind)
 have h2:-s / b*b=-s:=Rat.div_mul_cancel (by grind)
 generalize -r / a=x at h1
 generalize -s / b=y at h2
 have e:r*(-b)+s*a=(y-x)*(a*(-b)):=by
  have hr:r=-(x*a):=by grind
  have hs:s=-(y*b):=by grind
  rw [hr,hs]
  grind
 have hp:0<a*(-b):=Rat.mul_pos ha (by grind)
 rw [e]
 constructor
 ·intro h
  exact Rat.mul_nonneg (by grind) (by grind)
 ·intro h
  false_or_by_contra
  have:=Rat.mul_pos (show 0<x-y by grind) hp
  grind
theorem Zg4{X:List Rat}{v:Nat}{f:Zf}(hv:v<X.length)(hs:Srt f.1)(hi:InR X.length f.1):ZdA X v f=Xn X f-cof f.1 (v:Int)*X.getD v 0:=by
 unfold ZdA Xn
 rw [Zj1 hv hs fun t ht=>(hi t ht).1]
 grind
theorem Zp2{X:List Rat}{v:Nat}{rows:List Zf}{ok low high:Bool}{lo hi:Rat}(hv:v<X.length)(h:∀f∈rows,Srt f.1∧InR X.length f.1)(I:BdI X v rows ok low high lo hi):
  KQ X (Qh (v:Int) rows)↔ok=true∧(low=false∨high=false∨lo≤hi):=by
 rw [ZhR h]
 have hr:∀f∈rows,ZdA X v f=Xn X f-cof f.1 (v:Int)*X.getD v 0:=fun f hf=>Zg4 hv (h f hf).1 (h f hf).2
 have hpair:∀f∈rows,∀g∈rows,0<cof f.1 (v:Int)→cof g.1 (v:Int)<0→(bdX X v f≤bdX X v g↔0≤Xn X f*(-cof g.1 (v:Int))+Xn X g*cof f.1 (v:Int)):=fun f hf g hg h1 h2=>by
  unfold bdX
  rw [ZtU h1 h2,hr f hf,hr g hg]
  have e:(Xn X f-cof f.1 (v:Int)*X.getD v 0)*(-cof g.1 (v:Int))+(Xn X g-cof g.1 (v:Int)*X.getD v 0)*cof f.1 (v:Int)=Xn X f*(-cof g.1 (v:Int))+Xn X g*cof f.1 (v:Int):=by grind
  rw [e]
 constructor
 ·rintro ⟨a,b⟩
  refine ⟨I.okI.2 fun f hf h0=>?_,?_⟩
  ·have:=a f hf h0
   rw [hr f hf,h0]
   grind
  ·cases hl:low with
   | false=>exact .inl rfl
   | true=>
     cases hh:high with
     | false=>exact .inr (.inl rfl)
     | true=>
       refine .inr (.inr ?_)
       obtain ⟨⟨f,hf,f1,rfl⟩,_⟩:=I.loI hl
       obtain ⟨⟨g,hg,g1,rfl⟩,_⟩:=I.hiI hh
       exact (hpair f hf g hg f1 g1).2 (b f hf g hg f1 g1)
 ·rintro ⟨a,b⟩
  refine ⟨fun f hf h0=>?_,fun f hf g hg h1 h2=>?_⟩
  ·have:=I.okI.1 a f hf h0
   rw [hr f hf,h0] at this
   grind
  ·have hl:low=true:=I.lowI.2 ⟨f,hf,h1⟩
   have hh:high=true:=I.highI.2 ⟨g,hg,h2⟩
   rcases b with b|b|b
   ·rw [hl] at b;cases b
   ·rw [hh] at b;cases b
   ·have c1:=(I.loI hl).2 f hf h1
    have c2:=(I.hiI hh).2 g hg h2
    exact (hpair f hf g hg h1 h2).1 (by grind)
def Vf{α:Type}[DecidableEq α](l:List α)(x:α):List α:=if x∈l then l else l++[x]
section
variable {α β : Type} [DecidableEq α] [DecidableEq β]
theorem Zoc{l:List α}{x y:α}:y∈Vf l x↔y∈l∨y=x:=by
 unfold Vf
 split
 ·rename_i h
  exact ⟨.inl,fun h2=>h2.elim id fun e=>e▸h⟩
 ·simp
theorem Za5:∀{E l:List α} {y:α},y∈E.foldl Vf l↔y∈l∨y∈E
 | [],l,y=>by simp
 | x::E,l,y=>by
   rw [List.foldl_cons,Za5,Zoc,List.mem_cons]
   constructor
   ·rintro ((h|h)|h)
    ·exact .inl h
    ·exact .inr (.inl h)
    ·exact .inr (.inr h)
   ·rintro (h|h|h)
    ·exact .inl (.inl h)
    ·exact .inl (.inr h)
    ·exact .inr h
theorem Zhk:∀{E l:List α},(∀x∈E,x∈l)→E.foldl Vf l=l
 | [],_,_=>rfl
 | x::E,l,h=>by
   have e:Vf l x=l:=if_pos (h x List.mem_cons_self)
   rw [List.foldl_cons,e,Zhk fun y hy=>h y (List.mem_cons_of_mem _ hy)]
def ddF(E:List α):List α:=E.foldl Vf []
theorem ZfY{E:List α}{y:α}:y∈ddF E↔y∈E:=by
 unfold ddF
 rw [Za5]
 simp
theorem ZcK(E:List α)(x:α):ddF (E++[x])=if x∈ddF E then ddF E else ddF E++[x]:=by
 unfold ddF
 rw [List.foldl_append]
 rfl
theorem Zfk(k:α→List β)(l:List β)(E:List α):(E.flatMap k).foldl Vf l=((ddF E).flatMap k).foldl Vf l:=by
 have key:∀R:List α,(R.reverse.flatMap k).foldl Vf l=((ddF R.reverse).flatMap k).foldl Vf l:=fun R=>by
  induction R with
  | nil=>rfl
  | cons x R ih=>
    rw [List.reverse_cons,ZcK,List.flatMap_append,List.foldl_append,ih]
    split
    ·rename_i h
     refine Zhk fun y hy=>Za5.2 (.inr ?_)
     have e:[x].flatMap k=k x:=by simp
     rw [e] at hy
     exact List.mem_flatMap.2 ⟨x,h,hy⟩
    ·rw [List.flatMap_append,List.foldl_append]
 have:=key E.reverse
 rw [List.reverse_reverse] at this
 exact this
theorem Zdf(k h:α→List β)(hk:∀x l,(k x).foldl Vf l=(h x).foldl Vf l):∀(E:List α) (l:List β),(E.flatMap k).foldl Vf l=(E.flatMap h).foldl Vf l
 | [],_=>rfl
 | x::E,l=>by
   rw [List.flatMap_cons,List.flatMap_cons,List.foldl_append,List.foldl_append,hk,Zdf k h hk E]
end
def VY(n:Zf):Bool:=decide (n.1=[]∧0≤n.2)
theorem ZmF(l:List Zf)(f:Zf):ZU l f=if VY (Zv f)=true then l else Vf l (Zv f):=by
 unfold ZU VY Vf
 by_cases h:(Zv f).1=[]∧0≤(Zv f).2
 ·rw [if_pos h,if_pos (decide_eq_true h)]
 ·rw [if_neg h,decide_eq_false h,if_neg Bool.false_ne_true]
  by_cases hm:Zv f∈l
  ·rw [if_pos hm,if_pos hm]
  ·rw [if_neg hm,if_neg hm]
def nrm(R:List Zf):List Zf:=(R.map Zv).filter fun n=>!VY n
theorem XV:∀(R l:List Zf),R.foldl ZU l=(nrm R).foldl Vf l
 | [],_=>rfl
 | f::R,l=>by
   rw [List.foldl_cons,ZmF,XV R]
   unfold nrm
   rw [List.map_cons]
   by_cases h:VY (Zv f)=true
   ·rw [if_pos h,List.filter_cons_of_neg (by simp [h])]
   ·rw [if_neg h,List.filter_cons_of_pos (by simpa using h)]
    rfl
theorem Zua{q c:Rat}(hc:0<c):sgQ (q*c)=sgQ q:=by
 obtain ⟨a,b⟩:=ZfL (x:=q) hc
 unfold sgQ
 by_cases h1:0<q
 ·rw [if_pos h1,if_pos (a.2 h1)]
 ·rw [if_neg h1,if_neg fun h=>h1 (a.1 h)]
  by_cases h2:q<0
  ·rw [if_pos h2,if_pos (b.2 h2)]
  ·rw [if_neg h2,if_neg fun h=>h2 (b.1 h)]
theorem ZpM{q c:Rat}(hc:0<c):Y0 (q*c)=Y0 q*c:=by
 obtain ⟨a,b⟩:=ZfL (x:=q) hc
 unfold Y0
 by_cases h2:q<0
 ·rw [if_pos h2,if_pos (b.2 h2)];grind
 ·rw [if_neg h2,if_neg fun h=>h2 (b.1 h)]
def ZaZ(f:Zf)(c:Rat):Zf:=(Yh f.1 c,f.2*c)
theorem Zuv{F:List (Int × Rat)}{c d:Rat}(h:Srt F):Yh (Yh F c) d=Yh F (c*d):=by
 obtain ⟨a1,a2⟩:=YP (c:=c) h
 obtain ⟨b1,b2⟩:=YP (c:=d) a1
 obtain ⟨c1,c2⟩:=YP (c:=c*d) h
 exact ZaY b1 c1 fun u=>by rw [b2,a2,c2];grind
theorem Zhp{f:Zf}{c:Rat}(hf:Srt f.1)(hc:0<c):Zv (ZaZ f c)=Zv f:=by
 obtain ⟨F,q⟩:=f
 cases F with
 | nil=>
   show (([]:List (Int × Rat)),sgQ (q*c))=([],sgQ q)
   rw [Zua hc]
 | cons t F=>
   have hne:=hf.2
   have h1:Yh (t::F) c=(t.1,t.2*c)::Yh F c:=by
    have e:Yh (t::F) c=Ya t.1 (t.2*c)++Yh F c:=rfl
    rw [e,Zfb fun h0=>by
     rcases Rat.mul_eq_zero.1 h0 with h3|h3
     ·exact hne t List.mem_cons_self h3
     ·rw [h3] at hc;exact absurd hc (by decide)]
    rfl
   have e1:Zv (ZaZ (t::F,q) c)=(Yh (Yh (t::F) c) (1 / Y0 (t.2*c)),q*c*(1 / Y0 (t.2*c))):=by
    unfold ZaZ Zv
    rw [h1]
   have e2:Zv (t::F,q)=(Yh (t::F) (1 / Y0 t.2),q*(1 / Y0 t.2)):=rfl
   have ha:=Wh (hne t List.mem_cons_self)
   have e3:c*(1 / Y0 (t.2*c))=1 / Y0 t.2:=by
    rw [ZpM hc]
    generalize Y0 t.2=a at ha
    have k1:1 / (a*c)*(a*c)=1:=Rat.div_mul_cancel (by
     intro h0
     rcases Rat.mul_eq_zero.1 h0 with h3|h3 <;>grind)
    have k2:1 / a*a=1:=Rat.div_mul_cancel (by grind)
    generalize 1 / (a*c)=x at k1
    generalize 1 / a=y at k2
    grind
   rw [e1,e2,Zuv hf,e3,Rat.mul_assoc,e3]
theorem K0{f:Zf}(hf:Srt f.1)(hn:f.1≠[]):∃c,0<c∧Zv f=ZaZ f c:=by
 obtain ⟨F,q⟩:=f
 cases F with
 | nil=>exact absurd rfl hn
 | cons t F=>exact ⟨1 / Y0 t.2,KR (Wh (hf.2 t List.mem_cons_self)),rfl⟩
theorem Zqr{v:Int}{f g:Zf}{c d:Rat}(hf:Srt f.1)(hg:Srt g.1):YC v (ZaZ f c) (ZaZ g d)=ZaZ (YC v f g) (c*d):=by
 have f1:=YP (c:=c) hf
 have g1:=YP (c:=d) hg
 obtain ⟨a1,a2⟩:=WX (v:=v) (f:=ZaZ f c) (g:=ZaZ g d) f1.1 g1.1
 obtain ⟨b1,b2⟩:=WX (v:=v) hf hg
 obtain ⟨c1,c2⟩:=YP (c:=c*d) b1
 have e1:(YC v (ZaZ f c) (ZaZ g d)).1=Yh (YC v f g).1 (c*d):=ZaY a1 c1 fun u=>by
  rw [a2,c2,b2]
  show cof (Yh f.1 c) u*(-cof (Yh g.1 d) v)+cof (Yh g.1 d) u*cof (Yh f.1 c) v=_
  rw [f1.2,f1.2,g1.2,g1.2]
  grind
 have e2:(YC v (ZaZ f c) (ZaZ g d)).2=(YC v f g).2*(c*d):=by
  show f.2*c*(-cof (Yh g.1 d) v)+g.2*d*cof (Yh f.1 c) v=(f.2*(-cof g.1 v)+g.2*cof f.1 v)*(c*d)
  rw [f1.2,g1.2]
  grind
 exact Prod.ext e1 e2
def nz(f:Zf):List Zf:=if VY (Zv f)=true then [] else [Zv f]
def kz(v:Int)(f:Zf):List Zf:=if cof f.1 v=0 then nz f else []
def kp(v:Int)(f g:Zf):List Zf:=if 0<cof f.1 v∧cof g.1 v<0 then nz (YC v f g) else []
theorem Ur(f:Zf)(R:List Zf):nrm (f::R)=nz f++nrm R:=by
 unfold nrm nz
 rw [List.map_cons]
 by_cases h:VY (Zv f)=true
 ·rw [if_pos h,List.filter_cons_of_neg (by simp [h])];rfl
 ·rw [if_neg h,List.filter_cons_of_pos (by simpa using h)];rfl
theorem ZjO(R Q:List Zf):nrm (R++Q)=nrm R++nrm Q:=by
 unfold nrm
 rw [List.map_append,List.filter_append]
theorem ZbQ{v:Int}{f:Zf}{R:List Zf}(h:cof f.1 v=0):Q6 v (f::R)=f::Q6 v R:=by unfold Q6;simp [h]
theorem Jj{v:Int}{f:Zf}{R:List Zf}(h:¬cof f.1 v=0):Q6 v (f::R)=Q6 v R:=by unfold Q6;simp [h]
theorem Zfx{v:Int}{f:Zf}{R:List Zf}(h:0<cof f.1 v):upL v (f::R)=f::upL v R:=by unfold upL;simp [h]
theorem Zbu{v:Int}{f:Zf}{R:List Zf}(h:¬0<cof f.1 v):upL v (f::R)=upL v R:=by unfold upL;rw [List.filter_cons,if_neg (by rw [decide_eq_true_iff];exact h)]
theorem ZbE{v:Int}{f:Zf}{R:List Zf}(h:cof f.1 v<0):Q0 v (f::R)=f::Q0 v R:=by unfold Q0;simp [h]
theorem Um{v:Int}{f:Zf}{R:List Zf}(h:¬cof f.1 v<0):Q0 v (f::R)=Q0 v R:=by unfold Q0;rw [List.filter_cons,if_neg (by rw [decide_eq_true_iff];exact h)]
theorem Zha(v:Int):∀R:List Zf,nrm (Q6 v R)=R.flatMap (kz v)
 | []=>rfl
 | f::R=>by
   have ih:=Zha v R
   rw [List.flatMap_cons]
   by_cases h:cof f.1 v=0
   ·have e:kz v f=nz f:=if_pos h
    rw [ZbQ h,Ur,ih,e]
   ·have e:kz v f=[]:=if_neg h
    rw [Jj h,ih,e];rfl
theorem Zg9(v:Int)(f:Zf)(hf:0<cof f.1 v):∀R:List Zf,nrm ((Q0 v R).map (YC v f))=R.flatMap (kp v f)
 | []=>rfl
 | g::R=>by
   have ih:=Zg9 v f hf R
   rw [List.flatMap_cons]
   by_cases h:cof g.1 v<0
   ·have e:kp v f g=nz (YC v f g):=if_pos ⟨hf,h⟩
    rw [ZbE h,List.map_cons,Ur,ih,e]
   ·have e:kp v f g=[]:=if_neg fun x=>h x.2
    rw [Um h,ih,e];rfl
theorem ZfJ{v:Int}{f:Zf}(hf:¬0<cof f.1 v):∀R:List Zf,R.flatMap (kp v f)=[]
 | []=>rfl
 | g::R=>by
   have e:kp v f g=[]:=if_neg fun x=>hf x.1
   rw [List.flatMap_cons,ZfJ hf R,e]
   rfl
theorem Zev(v:Int)(Q:List Zf):∀R:List Zf,nrm ((upL v R).flatMap fun f=>(Q0 v Q).map (YC v f))=R.flatMap fun f=>Q.flatMap (kp v f)
 | []=>rfl
 | f::R=>by
   have ih:=Zev v Q R
   rw [List.flatMap_cons]
   by_cases h:0<cof f.1 v
   ·rw [Zfx h,List.flatMap_cons,ZjO,ih,Zg9 v f h Q]
   ·rw [Zbu h,ih,ZfJ h Q];rfl
theorem Zi3(v:Int)(R:List Zf):Qh v R=(R.flatMap (kz v)++R.flatMap fun f=>R.flatMap (kp v f)).foldl Vf []:=by
 unfold Qh Zck
 rw [XV,ZjO,Zha,Zev]
theorem Zau{f:Zf}(h:f.1=[]):Zv f=([],sgQ f.2):=by
 obtain ⟨F,q⟩:=f
 dsimp only at h
 subst h
 rfl
theorem Zss(q:Rat):sgQ (sgQ q)=sgQ q:=by
 unfold sgQ
 by_cases h1:0<q
 ·rw [if_pos h1];rfl
 ·by_cases h2:q<0
  ·rw [if_neg h1,if_pos h2];rfl
  ·rw [if_neg h1,if_neg h2];rfl
theorem Jm{f:Zf}(hf:Srt f.1):Zv (Zv f)=Zv f:=by
 by_cases h:f.1=[]
 ·rw [Zau h,Zau rfl,Zss]
 ·obtain ⟨c,hc,e⟩:=K0 hf h
  rw [e,Zhp hf hc,e]
theorem X9{f:Zf}(hf:Srt f.1):Srt (Zv f).1:=by
 by_cases h:f.1=[]
 ·rw [Zau h];exact Srt.nil
 ·obtain ⟨c,hc,e⟩:=K0 hf h
  rw [e]
  exact (YP hf).1
theorem UI{f:Zf}(hf:Srt f.1)(v:Int):(0<cof (Zv f).1 v↔0<cof f.1 v)∧(cof (Zv f).1 v<0↔cof f.1 v<0)∧(cof (Zv f).1 v=0↔cof f.1 v=0):=by
 by_cases h:f.1=[]
 ·rw [Zau h,h]
  simp
 ·obtain ⟨c,hc,e⟩:=K0 hf h
  have e2:cof (Zv f).1 v=cof f.1 v*c:=by rw [e];exact (YP hf).2 v
  obtain ⟨a,b⟩:=ZfL (x:=cof f.1 v) hc
  rw [e2]
  refine ⟨a,b,?_⟩
  constructor
  ·intro h0
   rw [h0] at a b
   false_or_by_contra
   have h1:¬0<cof f.1 v:=fun x=>absurd (a.2 x) (by decide)
   have h2:¬cof f.1 v<0:=fun x=>absurd (b.2 x) (by decide)
   grind
  ·intro h0;rw [h0];grind
theorem Zum{v:Int}{f:Zf}(hf:Srt f.1):kz v (Zv f)=kz v f:=by
 unfold kz nz
 rw [Jm hf]
 by_cases h:cof f.1 v=0
 ·rw [if_pos h,if_pos ((UI hf v).2.2.2 h)]
 ·rw [if_neg h,if_neg fun x=>h ((UI hf v).2.2.1 x)]
theorem Zbm{v:Int}{f g:Zf}(hf:Srt f.1)(hg:Srt g.1):kp v (Zv f) (Zv g)=kp v f g:=by
 obtain ⟨f1,f2,f3⟩:=UI hf v
 obtain ⟨g1,g2,g3⟩:=UI hg v
 unfold kp
 by_cases h:0<cof f.1 v∧cof g.1 v<0
 ·rw [if_pos h,if_pos ⟨f1.2 h.1,g2.2 h.2⟩]
  have hfn:f.1≠[]:=fun e=>by
   have:=h.1
   rw [e,YO] at this
   exact absurd this (by decide)
  have hgn:g.1≠[]:=fun e=>by
   have:=h.2
   rw [e,YO] at this
   exact absurd this (by decide)
  obtain ⟨c,hc,ec⟩:=K0 hf hfn
  obtain ⟨d,hd,ed⟩:=K0 hg hgn
  unfold nz
  rw [ec,ed,Zqr hf hg,Zhp (WX hf hg).1 (Rat.mul_pos hc hd)]
 ·rw [if_neg h,if_neg fun x=>h ⟨f1.1 x.1,g2.1 x.2⟩]
theorem Zgo{f:Zf}(hf:Srt f.1)(h:VY (Zv f)=true):f.1=[]:=by
 false_or_by_contra
 rename_i hn
 have h1:=(of_decide_eq_true h).1
 obtain ⟨c,hc,e⟩:=K0 hf hn
 obtain ⟨F,q⟩:=f
 cases F with
 | nil=>exact hn rfl
 | cons t F=>
   rw [e] at h1
   have e2:(ZaZ (t::F,q) c).1=Ya t.1 (t.2*c)++Yh F c:=rfl
   rw [e2,Zfb fun h0=>by
    rcases Rat.mul_eq_zero.1 h0 with h3|h3
    ·exact hf.2 t List.mem_cons_self h3
    ·rw [h3] at hc;exact absurd hc (by decide)] at h1
   cases h1
theorem ZoN(v:Int):∀R:List Zf,(∀f∈R,Srt f.1)→(nrm R).flatMap (kz v)=R.flatMap (kz v)
 | [],_=>rfl
 | f::R,h=>by
   have hf:=h f List.mem_cons_self
   rw [Ur,List.flatMap_append,ZoN v R fun g hg=>h g (List.mem_cons_of_mem _ hg),List.flatMap_cons]
   congr 1
   by_cases ht:VY (Zv f)=true
   ·have e:nz f=[]:=if_pos ht
    rw [e]
    unfold kz
    rw [e]
    split <;>rfl
   ·have e:nz f=[Zv f]:=if_neg ht
    rw [e,List.flatMap_cons,List.flatMap_nil,List.append_nil,Zum hf]
theorem ZhG(k:Zf→List Zf):∀R:List Zf,(∀f∈R,Srt f.1∧(f.1=[]→k f=[])∧k (Zv f)=k f)→(nrm R).flatMap k=R.flatMap k
 | [],_=>rfl
 | f::R,h=>by
   obtain ⟨hf,h0,h1⟩:=h f List.mem_cons_self
   rw [Ur,List.flatMap_append,ZhG k R fun g hg=>h g (List.mem_cons_of_mem _ hg),List.flatMap_cons]
   congr 1
   by_cases ht:VY (Zv f)=true
   ·have e:nz f=[]:=if_pos ht
    rw [e,h0 (Zgo hf ht)]
    rfl
   ·have e:nz f=[Zv f]:=if_neg ht
    rw [e,List.flatMap_cons,List.flatMap_nil,List.append_nil,h1]
theorem Zc7{k h:Zf→List Zf}:∀{R:List Zf},(∀x∈R,k x=h x)→R.flatMap k=R.flatMap h
 | [],_=>rfl
 | x::R,e=>by rw [List.flatMap_cons,List.flatMap_cons,e x List.mem_cons_self,Zc7 fun y hy=>e y (List.mem_cons_of_mem _ hy)]
theorem Zvw(v:Int)(R:List Zf)(h:∀f∈R,Srt f.1):((nrm R).flatMap fun f=>(nrm R).flatMap (kp v f))=R.flatMap fun f=>R.flatMap (kp v f):=by
 have JG:∀f,Srt f.1→(nrm R).flatMap (kp v (Zv f))=R.flatMap (kp v f):=fun f hf=>by
  have e:=ZhG (kp v (Zv f)) R fun g hg=>⟨h g hg,fun e=>by
   unfold kp
   rw [if_neg]
   rintro ⟨_,b⟩
   rw [e,YO] at b
   exact absurd b (by decide),by
   have k1:=Zbm (v:=v) (X9 hf) (h g hg)
   have k2:=Zbm (v:=v) hf (X9 (h g hg))
   have k3:=Zbm (v:=v) hf (h g hg)
   rw [Jm hf] at k1
   rw [k1]⟩
  rw [e]
  refine Zc7 fun g hg=>?_
  have k3:=Zbm (v:=v) hf (h g hg)
  have k1:=Zbm (v:=v) (X9 hf) (h g hg)
  rw [Jm hf] at k1
  rw [←k3,k1]
 have outer:∀Q:List Zf,(∀f∈Q,Srt f.1)→((nrm Q).flatMap fun f=>(nrm R).flatMap (kp v f))=Q.flatMap fun f=>R.flatMap (kp v f):=fun Q=>by
  induction Q with
  | nil=>intro _;rfl
  | cons f Q ih=>
    intro hQ
    have hf:=hQ f List.mem_cons_self
    rw [Ur,List.flatMap_append,ih fun g hg=>hQ g (List.mem_cons_of_mem _ hg),List.flatMap_cons]
    congr 1
    by_cases ht:VY (Zv f)=true
    ·have e:nz f=[]:=if_pos ht
     have e2:=Zgo hf ht
     rw [e,ZfJ (fun x=>by rw [e2,YO] at x;exact absurd x (by decide)) R]
     rfl
    ·have e:nz f=[Zv f]:=if_neg ht
     rw [e,List.flatMap_cons,List.flatMap_nil,List.append_nil,JG f hf]
 exact outer R h
theorem Zo1{v:Int}{R:List Zf}(h:∀f∈R,Srt f.1):Qh v (R.foldl ZU [])=Qh v R:=by
 have e1:R.foldl ZU []=ddF (nrm R):=XV R []
 rw [e1,Zi3,Zi3,List.foldl_append,List.foldl_append]
 rw [←Zfk (kz v) [] (nrm R),ZoN v R h]
 generalize (R.flatMap (kz v)).foldl Vf []=l
 rw [←Zvw v R h,←Zfk (fun f=>(ddF (nrm R)).flatMap (kp v f)) l (nrm R)]
 exact Zdf _ _ (fun f l=>(Zfk (kp v f) l (nrm R)).symm) (nrm R) l
end
end Go.Proofs.YtdaonnnlgfhlaaaGreatDoor
