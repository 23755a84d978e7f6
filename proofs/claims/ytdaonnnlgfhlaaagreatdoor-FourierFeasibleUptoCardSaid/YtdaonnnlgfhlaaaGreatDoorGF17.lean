import Derived.Test.YtdaonnnlgfhlaaaGreatDoorGF13
import Derived.Test.YtdaonnnlgfhlaaaGreatDoorGF16
set_option linter.all false
set_option maxHeartbeats 6400000
set_option maxRecDepth 100000
namespace Go.Proofs.YtdaonnnlgfhlaaaGreatDoor
theorem Cont_m{m:Nat}{step:St→Option (Ex × St)}{live:List Nat}{s t:St}(h:(match step s with|some (.nrm,s')=>gc m live s'=some t|_=>False)):Cont m step live s t:=by
 revert h
 split
 ·next s' h=>exact fun h2=>⟨s',h,h2⟩
 ·exact False.elim
theorem Leave_m{m:Nat}{step:St→Option (Ex × St)}{live:List Nat}{s t:St}{ex:Ex}(h:(match step s with|some (e,s')=>e=ex∧gc m live s'=some t|none=>False)):Leave m step live s ex t:=by
 revert h
 split
 ·next e s' h=>exact fun h2=>⟨s',by rw [h,h2.1],h2.2⟩
 ·exact False.elim
section
open Go.RowKit
theorem awake31_c:run 12 8 []=some (.lit (.bool true)):=by kernel_rfl
end
section
open Go.RowKit
def awG(args:List AV):Option AV:=match args with|[]=>some (.lit (.bool true))|_=>none
theorem con_awake:∀args r,awG args=some r→Con Tryz.prog 8 args r:=fun args r hr=>by
 unfold awG at hr
 split at hr
 ·cases hr
  exact ((tab_ok 13).pure _ _ (tb_8 12)).2 _ _ awake31_c
 ·cases hr
end
section
open Go.RowKit
noncomputable def lfRT(n:Nat):FuncId→Option Orc:=ext (tab (n+13)) 8 (.pure awG)
theorem lfRT_ok(n:Nat):OrcOk Tryz.prog (lfRT n):=(tab_ok (n+13)).extP (by kernel_rfl) con_awake
noncomputable def lfR(n:Nat)(args:List AV):Option AV:=fnP Tryz.prog (lfRT n) (livesOf 6) big (fnOf 6) args
theorem lfR_con{n:Nat}{args:List AV}{r:AV}(h:lfR n args=some r):Con Tryz.prog 6 args r:=
 con_of (lfRT_ok n) mixed (plain_fn (by kernel_rfl)) (body_some (by kernel_rfl) (plain_fn (by kernel_rfl))) h
theorem lfR_aw(n:Nat):lfRT n 8=some (.pure awG):=by unfold lfRT ext;rw [if_pos rfl]
theorem lfR_l16(n:Nat):lfRT n 16=some (.pure (run (n+12) 16)):=by unfold lfRT ext;rw [if_neg (by decide)];exact tb_16 _
theorem lfR_l27(n:Nat):lfRT n 27=some (.pure (run (n+12) 27)):=by unfold lfRT ext;rw [if_neg (by decide)];exact tb_27 _
theorem lfR_l28(n:Nat):lfRT n 28=some (.pure (run (n+12) 28)):=by unfold lfRT ext;rw [if_neg (by decide)];exact tb_28 _
theorem lfR_l29(n:Nat):lfRT n 29=some (.pure (run (n+12) 29)):=by unfold lfRT ext;rw [if_neg (by decide)];exact tb_29 _
section
variable {a0 : List FormR} {r : Bool} {n : Nat} {a1 : Int} {r5 : Int} {r3 : Int} {r2 : Bool} {r4 : Bool} {r7 : Rat} {r6 : Int}
section
variable(K1:run (n+12) 16 [.sl 4 (a0.map formRC)]=some (.lit (.bool r)))
include K1
theorem lfR_f1(C2:r=false):
  lfR n [.sl 4 (a0.map formRC),.lit (.int .i64 a1)]=some (.lit (.bool true)):=by
 unfold lfR fnP
 simp+decide [Tryz.f6,K1,C2,lfR_aw,awG,lfR_l16]
theorem lfR_f2(C2:r=true)(C3:3<a1):
  lfR n [.sl 4 (a0.map formRC),.lit (.int .i64 a1)]=some (.lit (.bool true)):=by
 unfold lfR fnP
 simp+decide [Tryz.f6,K1,C2,C3,lfR_aw,awG,lfR_l16]
section
variable(C2:r=true)(C3:¬3<a1)(K4:run (n+12) 27 [.sl 4 (a0.map formRC),.lit (.int .i64 a1)]=some (.tup [.lit (.bool r2),.lit (.int .i64 r3)]))(K5:run (n+12) 28 [.sl 4 (a0.map formRC),.lit (.int .i64 a1)]=some (.tup [.lit (.bool r4),.lit (.int .i64 r5)]))(C6:r3=r5)(C7:r2=r4)
include C2 C3 K4 K5 C6 C7
theorem lfR_f5(C8:¬r3=0):
  lfR n [.sl 4 (a0.map formRC),.lit (.int .i64 a1)]=some (.lit (.bool (r3==1))):=by
 have C6_n:(r3 !=r5)=false:=by rw [C6];simp
 have C8_n:(r3 !=0)=true:=by simpa using C8
 unfold lfR fnP
 simp+decide [Tryz.f6,K1,C2,C3,K4,K5,C6_n,C7,C8_n,lfR_aw,awG,lfR_l16,lfR_l27,lfR_l28]
section
variable(C8:r3=0)(K9:run (n+12) 29 [.agg [.lit (.int .i64 a1),.sl 4 (a0.map formRC),.sl 4 [],.lit (.bool false),.sl 1 [],.sl 1 []]]=some (.tup [.lit (.int .i64 r6),ratV r7]))
include C8 K9
theorem lfR_f6(C10:r6=0):
  lfR n [.sl 4 (a0.map formRC),.lit (.int .i64 a1)]=some (.lit (.bool true)):=by
 have C6_n:(r3 !=r5)=false:=by rw [C6];simp
 have C8_n:(r3 !=0)=false:=by rw [C8];simp
 simp only [ratV] at K9
 have C10_:(r6==0)=true:=by rw [C10];simp
 unfold lfR fnP
 simp+decide [Tryz.f6,K1,C2,C3,K4,K5,C6_n,C7,C8_n,K9,C10_,lfR_aw,awG,lfR_l16,lfR_l27,lfR_l28,lfR_l29]
theorem lfR_f7(C10:¬r6=0):
  lfR n [.sl 4 (a0.map formRC),.lit (.int .i64 a1)]=some (.lit (.bool ((r2==(!(r6==2)))))):=by
 have C6_n:(r3 !=r5)=false:=by rw [C6];simp
 have C8_n:(r3 !=0)=false:=by rw [C8];simp
 simp only [ratV] at K9
 have C10_:(r6==0)=false:=by simpa using C10
 unfold lfR fnP
 simp+decide [Tryz.f6,K1,C2,C3,K4,K5,C6_n,C7,C8_n,K9,C10_,lfR_aw,awG,lfR_l16,lfR_l27,lfR_l28,lfR_l29]
 rfl
end
end
end
end
end
section
open Go.RowKit
noncomputable def lst_C8:Code:=(loopsOf (bodyOf Tryz.f29)).getD 0 .skip
noncomputable def lst_C16:Code:=(loopsOf (bodyOf Tryz.f29)).getD 1 .skip
noncomputable def lst_C20:Code:=(loopsOf lst_C16).getD 0 .skip
def lst_h8(a0:TProgram)(out_8:List Form)(out2_8:List Trow)(i_8:Nat):St:=
 ⟨[(3,.ptr 0 0),(4,.lit (.int .i64 (a0.Vars))),(6,.own 1 out_8.length),(7,.own 2 out2_8.length),(8,.lit (.int .i64 (i_8:Int)))],
  [(0,some (.box 26 [.lit (.bool false),.nl 1,.nl 1] false)),
   (1,some (.row 28 4 (out_8.map formC) 0)),
   (2,some (.row 93 2 (out2_8.map rowC) 0))],3⟩
def lst_h20(a0:TProgram)(out_20:List Trow)(out_16:List Bool)(i_20:Int)(i2_20:Nat)(fz_20:Nat):St:=
 ⟨[(3,.ptr 0 0),(4,.lit (.int .i64 (a0.Vars))),(7,.own 1 out_20.length),(11,.own 2 out_16.length),(12,.lit (.int .i64 1)),(13,.lit (.int .i64 i_20)),(14,.lit (.int .i64 (i2_20:Int)))],
  [(0,some (.box 26 [.lit (.bool false),.nl 1,.nl 1] false)),
   (1,some (.row 93 2 (out_20.map rowC) fz_20)),
   (2,some (.row 4 1 (out_16.map boolC) 0))],3⟩
def lst_h20b(a0:TProgram)(l_16b:List Trow)(out_16b:List Bool)(i_16b:Nat)(i_20:Int)(i2_20:Nat):St:=
 ⟨[(3,.ptr 0 0),(4,.lit (.int .i64 (a0.Vars))),(7,.sl 2 (l_16b.map rowC)),(11,.own 1 out_16b.length),(12,.lit (.int .i64 (i_16b:Int))),(13,.lit (.int .i64 i_20)),(14,.lit (.int .i64 (i2_20:Int)))],
  [(0,some (.box 26 [.lit (.bool false),.nl 1,.nl 1] false)),
   (1,some (.row 4 1 (out_16b.map boolC) 0))],2⟩
def lst_h16(a0:TProgram)(out2_8:List Trow)(out_16:List Bool):St:=
 ⟨[(3,.ptr 0 0),(4,.lit (.int .i64 (a0.Vars))),(7,.own 1 out2_8.length),(11,.own 2 out_16.length),(12,.lit (.int .i64 1))],
  [(0,some (.box 26 [.lit (.bool false),.nl 1,.nl 1] false)),
   (1,some (.row 93 2 (out2_8.map rowC) 0)),
   (2,some (.row 4 1 (out_16.map boolC) 0))],3⟩
def lst_h16b(a0:TProgram)(l_16b:List Trow)(out_16b:List Bool)(i_16b:Nat):St:=
 ⟨[(3,.ptr 0 0),(4,.lit (.int .i64 (a0.Vars))),(7,.sl 2 (l_16b.map rowC)),(11,.own 1 out_16b.length),(12,.lit (.int .i64 (i_16b:Int)))],
  [(0,some (.box 26 [.lit (.bool false),.nl 1,.nl 1] false)),
   (1,some (.row 4 1 (out_16b.map boolC) 0))],2⟩
def lst_o8a(a0:TProgram)(out2_8:List Trow):St:=
 ⟨[(2,.lit (.int .i64 0)),(3,.ptr 0 0),(4,.lit (.int .i64 (a0.Vars))),(7,.own 1 out2_8.length)],
  [(0,some (.box 26 [.lit (.bool false),.nl 1,.nl 1] false)),
   (1,some (.row 93 2 (out2_8.map rowC) 0))],2⟩
def lst_o8b(a0:TProgram)(out2_8:List Trow):St:=
 ⟨[(2,.any),(3,.ptr 0 0),(4,.lit (.int .i64 (a0.Vars))),(7,.own 1 out2_8.length)],
  [(0,some (.box 26 [.lit (.bool false),.nl 1,.nl 1] false)),
   (1,some (.row 93 2 (out2_8.map rowC) 0))],2⟩
def lst_o20a(a0:TProgram)(out_20:List Trow)(out_16:List Bool)(i_20:Int)(fz_20:Nat):St:=
 ⟨[(3,.ptr 0 0),(4,.lit (.int .i64 (a0.Vars))),(7,.own 1 out_20.length),(11,.own 2 out_16.length),(12,.lit (.int .i64 1)),(13,.lit (.int .i64 i_20))],
  [(0,some (.box 26 [.lit (.bool false),.nl 1,.nl 1] false)),
   (1,some (.row 93 2 (out_20.map rowC) fz_20)),
   (2,some (.row 4 1 (out_16.map boolC) 0))],3⟩
def lst_o20b_a(a0:TProgram)(l_16b:List Trow)(out_16b:List Bool)(i_16b:Nat)(i_20:Int):St:=
 ⟨[(3,.ptr 0 0),(4,.lit (.int .i64 (a0.Vars))),(7,.sl 2 (l_16b.map rowC)),(11,.own 1 out_16b.length),(12,.lit (.int .i64 (i_16b:Int))),(13,.lit (.int .i64 i_20))],
  [(0,some (.box 26 [.lit (.bool false),.nl 1,.nl 1] false)),
   (1,some (.row 4 1 (out_16b.map boolC) 0))],2⟩
def lst_o16a(a0:TProgram)(out_20:List Trow):St:=
 ⟨[(2,.lit (.int .i64 0)),(3,.ptr 0 0),(4,.lit (.int .i64 (a0.Vars))),(7,.own 1 out_20.length)],
  [(0,some (.box 26 [.lit (.bool false),.nl 1,.nl 1] false)),
   (1,some (.row 93 2 (out_20.map rowC) out_20.length))],2⟩
def lst_o16b(a0:TProgram)(r58:List Trow):St:=
 ⟨[(2,.lit (.int .i64 0)),(3,.ptr 0 0),(4,.lit (.int .i64 (a0.Vars))),(7,.sl 2 (r58.map rowC))],
  [(0,some (.box 26 [.lit (.bool false),.nl 1,.nl 1] false))],1⟩
def lst_o16c(a0:TProgram)(out2_8:List Trow):St:=
 ⟨[(2,.any),(3,.ptr 0 0),(4,.lit (.int .i64 (a0.Vars))),(7,.own 1 out2_8.length)],
  [(0,some (.box 26 [.lit (.bool false),.nl 1,.nl 1] false)),
   (1,some (.row 93 2 (out2_8.map rowC) 0))],2⟩
def lst_o16d(a0:TProgram)(l_16b:List Trow):St:=
 ⟨[(2,.lit (.int .i64 0)),(3,.ptr 0 0),(4,.lit (.int .i64 (a0.Vars))),(7,.sl 2 (l_16b.map rowC))],
  [(0,some (.box 26 [.lit (.bool false),.nl 1,.nl 1] false))],1⟩
def lst_o16e(a0:TProgram)(r65:List Trow):St:=
 ⟨[(2,.lit (.int .i64 0)),(3,.ptr 0 0),(4,.lit (.int .i64 (a0.Vars))),(7,.sl 2 (r65.map rowC))],
  [(0,some (.box 26 [.lit (.bool false),.nl 1,.nl 1] false))],1⟩
def lst_o16f(a0:TProgram)(l_16b:List Trow):St:=
 ⟨[(2,.any),(3,.ptr 0 0),(4,.lit (.int .i64 (a0.Vars))),(7,.sl 2 (l_16b.map rowC))],
  [(0,some (.box 26 [.lit (.bool false),.nl 1,.nl 1] false))],1⟩
section
variable{z3:Int}{a0:TProgram}{out_8:List Form}{r9:Bool}{q3:Rat}{i_8:Nat}{r8:List Int}{out2_8:List Trow}{F3:List (Int × Rat)}{n:Nat}{out_20:List Trow}{x22:Bool}{fz_20:Nat}{i2_20:Nat}{out_16:List Bool}{i_20:Int}{r55:Int}{r56:Int}
section
variable(C1:(i_8:Int)<(out_8.length:Int))(G2:i_8<out_8.length)(E3:out_8[i_8]?=some (F3,q3))(W4:InI (a0.Vars+1))(K5:run (n+3) 63 [formV (F3,q3),.lit (.int .i64 (a0.Vars+1))]=some (.tup [.sl 1 (r8.map intI64C),.lit (.bool r9)]))
include C1 G2 E3 W4 K5
theorem lst_r8_1(C6:r9=true)(D7:IntKind.u64.wrap (1*2 ^ min ((i_8:Int):Int).toNat IntKind.u64.bits)=z3)(M8:out2_8.length+1≤100000000)(W9:InI ((i_8:Int)+1)):
  Cont 0 (exec Tryz.prog (tab (n+4)) 0 115 (livesOf 29) big lst_C8) (livesOf 29 8) (lst_h8 a0 out_8 out2_8 i_8) (lst_h8 a0 out_8 (out2_8++[(⟨r8,z3⟩:Trow)]) (i_8+1)):=by
 have C1_:i_8<out_8.length:=by omega
 obtain ⟨EL3,EG3⟩:=List.getElem?_eq_some_iff.1 E3
 have W4_:IntKind.i64.wrap (a0.Vars+1)=a0.Vars+1:=wr64 W4.1 W4.2
 simp only [formV] at K5
 have O7:¬(((i_8:Int):Int)<0):=by omega
 simp at D7
 have M8_:∀b,b≤10000→roomy (out2_8.length+1) b=true:=fun b hb=>roomy_s M8 hb
 have W9_:IntKind.i64.wrap ((i_8:Int)+1)=(i_8:Int)+1:=wr64 W9.1 W9.2
 apply Cont_m
 simp+decide [lst_h8,loopsOf, Tryz.f29,lst_C8,C1,C1_,EG3,W4_,K5,C6,O7,D7,M8_,W9_]
theorem lst_x8_1(C6:r9=false):
  Leave 0 (exec Tryz.prog (tab (n+4)) 0 115 (livesOf 29) big lst_C8) (livesOf 29 (outOf 8)) (lst_h8 a0 out_8 out2_8 i_8) (.ret) (lst_o8a a0 out2_8):=by
 have C1_:i_8<out_8.length:=by omega
 obtain ⟨EL3,EG3⟩:=List.getElem?_eq_some_iff.1 E3
 have W4_:IntKind.i64.wrap (a0.Vars+1)=a0.Vars+1:=wr64 W4.1 W4.2
 simp only [formV] at K5
 apply Leave_m
 simp+decide [lst_h8,loopsOf, Tryz.f29,lst_o8a,lst_C8,C1,C1_,EG3,W4_,K5,C6]
end
theorem lst_x8_2(C1:¬(i_8:Int)<(out_8.length:Int)):
  Leave 0 (exec Tryz.prog (tab (n+4)) 0 115 (livesOf 29) big lst_C8) (livesOf 29 (outOf 8)) (lst_h8 a0 out_8 out2_8 i_8) (.exit 0) (lst_o8b a0 out2_8):=by
 apply Leave_m
 simp+decide [lst_h8,loopsOf, Tryz.f29,lst_o8b,lst_C8,C1]
section
variable(C1:(i2_20:Int)<a0.Vars)(G2:i2_20<out_16.length)(E3:out_16[i2_20]?=some x22)
include C1 G2 E3
theorem lst_r20_1(C4:x22=false)(C5:i_20<0)(W6:InI ((i2_20:Int)+1)):
  Cont 0 (exec Tryz.prog (tab (n+4)) 0 115 (livesOf 29) big lst_C20) (livesOf 29 20) (lst_h20 a0 out_20 out_16 i_20 i2_20 fz_20) (lst_h20 a0 out_20 out_16 (i2_20:Int) (i2_20+1) fz_20):=by
 obtain ⟨EL3,EG3⟩:=List.getElem?_eq_some_iff.1 E3
 have W6_:IntKind.i64.wrap ((i2_20:Int)+1)=(i2_20:Int)+1:=wr64 W6.1 W6.2
 apply Cont_m
 simp+decide [lst_h20,loopsOf, Tryz.f29,lst_C16,lst_C20,C1,G2,EG3,C4,C5,W6_]
section
variable(C4:x22=false)(C5:¬i_20<0)(K6:run (n+3) 64 [.sl 2 (out_20.map rowC),.lit (.int .i64 (i2_20:Int))]=some (.lit (.int .i64 r55)))(K7:run (n+3) 64 [.sl 2 (out_20.map rowC),.lit (.int .i64 i_20)]=some (.lit (.int .i64 r56)))
include C4 C5 K6 K7
theorem lst_r20_2(C8:r55<r56)(W9:InI ((i2_20:Int)+1)):
  Cont 0 (exec Tryz.prog (tab (n+4)) 0 115 (livesOf 29) big lst_C20) (livesOf 29 20) (lst_h20 a0 out_20 out_16 i_20 i2_20 fz_20) (lst_h20 a0 out_20 out_16 (i2_20:Int) (i2_20+1) out_20.length):=by
 obtain ⟨EL3,EG3⟩:=List.getElem?_eq_some_iff.1 E3
 have W9_:IntKind.i64.wrap ((i2_20:Int)+1)=(i2_20:Int)+1:=wr64 W9.1 W9.2
 apply Cont_m
 simp+decide [lst_h20,loopsOf, Tryz.f29,lst_C16,lst_C20,C1,G2,EG3,C4,C5,K6,K7,C8,W9_]
theorem lst_r20_3(C8:¬r55<r56)(W9:InI ((i2_20:Int)+1)):
  Cont 0 (exec Tryz.prog (tab (n+4)) 0 115 (livesOf 29) big lst_C20) (livesOf 29 20) (lst_h20 a0 out_20 out_16 i_20 i2_20 fz_20) (lst_h20 a0 out_20 out_16 i_20 (i2_20+1) out_20.length):=by
 obtain ⟨EL3,EG3⟩:=List.getElem?_eq_some_iff.1 E3
 have W9_:IntKind.i64.wrap ((i2_20:Int)+1)=(i2_20:Int)+1:=wr64 W9.1 W9.2
 apply Cont_m
 simp+decide [lst_h20,loopsOf, Tryz.f29,lst_C16,lst_C20,C1,G2,EG3,C4,C5,K6,K7,C8,W9_]
end
theorem lst_r20_4(C4:x22=true)(W5:InI ((i2_20:Int)+1)):
  Cont 0 (exec Tryz.prog (tab (n+4)) 0 115 (livesOf 29) big lst_C20) (livesOf 29 20) (lst_h20 a0 out_20 out_16 i_20 i2_20 fz_20) (lst_h20 a0 out_20 out_16 i_20 (i2_20+1) fz_20):=by
 obtain ⟨EL3,EG3⟩:=List.getElem?_eq_some_iff.1 E3
 have W5_:IntKind.i64.wrap ((i2_20:Int)+1)=(i2_20:Int)+1:=wr64 W5.1 W5.2
 apply Cont_m
 simp+decide [lst_h20,loopsOf, Tryz.f29,lst_C16,lst_C20,C1,G2,EG3,C4,W5_]
end
theorem lst_x20_1(C1:¬(i2_20:Int)<a0.Vars):
  Leave 0 (exec Tryz.prog (tab (n+4)) 0 115 (livesOf 29) big lst_C20) (livesOf 29 (outOf 20)) (lst_h20 a0 out_20 out_16 i_20 i2_20 fz_20) (.exit 4) (lst_o20a a0 out_20 out_16 i_20 fz_20):=by
 apply Leave_m
 simp+decide [lst_h20,loopsOf, Tryz.f29,lst_o20a,lst_C16,lst_C20,C1]
end
theorem lst_r20b_1{n:Nat}{a0:TProgram}{i2_20:Nat}{out_16b:List Bool}{x25:Bool}{i_20:Int}{l_16b:List Trow}{i_16b:Nat}(C1:(i2_20:Int)<a0.Vars)(G2:i2_20<out_16b.length)(E3:out_16b[i2_20]?=some x25)(C4:x25=false)(C5:i_20<0)(W6:InI ((i2_20:Int)+1)):
  Cont 0 (exec Tryz.prog (tab (n+4)) 0 115 (livesOf 29) big lst_C20) (livesOf 29 20) (lst_h20b a0 l_16b out_16b i_16b i_20 i2_20) (lst_h20b a0 l_16b out_16b i_16b (i2_20:Int) (i2_20+1)):=by
 obtain ⟨EL3,EG3⟩:=List.getElem?_eq_some_iff.1 E3
 have W6_:IntKind.i64.wrap ((i2_20:Int)+1)=(i2_20:Int)+1:=wr64 W6.1 W6.2
 apply Cont_m
 simp+decide [lst_h20b,loopsOf, Tryz.f29,lst_C16,lst_C20,C1,G2,EG3,C4,C5,W6_]
theorem lst_r20b_2{n:Nat}{a0:TProgram}{i2_20:Nat}{out_16b:List Bool}{x25:Bool}{i_20:Int}{l_16b:List Trow}{r62:Int}{r63:Int}{i_16b:Nat}(C1:(i2_20:Int)<a0.Vars)(G2:i2_20<out_16b.length)(E3:out_16b[i2_20]?=some x25)(C4:x25=false)(C5:¬i_20<0)(K6:run (n+3) 64 [.sl 2 (l_16b.map rowC),.lit (.int .i64 (i2_20:Int))]=some (.lit (.int .i64 r62)))(K7:run (n+3) 64 [.sl 2 (l_16b.map rowC),.lit (.int .i64 i_20)]=some (.lit (.int .i64 r63)))(C8:r62<r63)(W9:InI ((i2_20:Int)+1)):
  Cont 0 (exec Tryz.prog (tab (n+4)) 0 115 (livesOf 29) big lst_C20) (livesOf 29 20) (lst_h20b a0 l_16b out_16b i_16b i_20 i2_20) (lst_h20b a0 l_16b out_16b i_16b (i2_20:Int) (i2_20+1)):=by
 obtain ⟨EL3,EG3⟩:=List.getElem?_eq_some_iff.1 E3
 have W9_:IntKind.i64.wrap ((i2_20:Int)+1)=(i2_20:Int)+1:=wr64 W9.1 W9.2
 apply Cont_m
 simp+decide [lst_h20b,loopsOf, Tryz.f29,lst_C16,lst_C20,C1,G2,EG3,C4,C5,K6,K7,C8,W9_]
theorem lst_r20b_3{n:Nat}{a0:TProgram}{i2_20:Nat}{out_16b:List Bool}{x25:Bool}{i_20:Int}{l_16b:List Trow}{r62:Int}{r63:Int}{i_16b:Nat}(C1:(i2_20:Int)<a0.Vars)(G2:i2_20<out_16b.length)(E3:out_16b[i2_20]?=some x25)(C4:x25=false)(C5:¬i_20<0)(K6:run (n+3) 64 [.sl 2 (l_16b.map rowC),.lit (.int .i64 (i2_20:Int))]=some (.lit (.int .i64 r62)))(K7:run (n+3) 64 [.sl 2 (l_16b.map rowC),.lit (.int .i64 i_20)]=some (.lit (.int .i64 r63)))(C8:¬r62<r63)(W9:InI ((i2_20:Int)+1)):
  Cont 0 (exec Tryz.prog (tab (n+4)) 0 115 (livesOf 29) big lst_C20) (livesOf 29 20) (lst_h20b a0 l_16b out_16b i_16b i_20 i2_20) (lst_h20b a0 l_16b out_16b i_16b i_20 (i2_20+1)):=by
 obtain ⟨EL3,EG3⟩:=List.getElem?_eq_some_iff.1 E3
 have W9_:IntKind.i64.wrap ((i2_20:Int)+1)=(i2_20:Int)+1:=wr64 W9.1 W9.2
 apply Cont_m
 simp+decide [lst_h20b,loopsOf, Tryz.f29,lst_C16,lst_C20,C1,G2,EG3,C4,C5,K6,K7,C8,W9_]
theorem lst_r20b_4{n:Nat}{a0:TProgram}{i2_20:Nat}{out_16b:List Bool}{x25:Bool}{l_16b:List Trow}{i_16b:Nat}{i_20:Int}(C1:(i2_20:Int)<a0.Vars)(G2:i2_20<out_16b.length)(E3:out_16b[i2_20]?=some x25)(C4:x25=true)(W5:InI ((i2_20:Int)+1)):
  Cont 0 (exec Tryz.prog (tab (n+4)) 0 115 (livesOf 29) big lst_C20) (livesOf 29 20) (lst_h20b a0 l_16b out_16b i_16b i_20 i2_20) (lst_h20b a0 l_16b out_16b i_16b i_20 (i2_20+1)):=by
 obtain ⟨EL3,EG3⟩:=List.getElem?_eq_some_iff.1 E3
 have W5_:IntKind.i64.wrap ((i2_20:Int)+1)=(i2_20:Int)+1:=wr64 W5.1 W5.2
 apply Cont_m
 simp+decide [lst_h20b,loopsOf, Tryz.f29,lst_C16,lst_C20,C1,G2,EG3,C4,W5_]
theorem lst_x20b_1{n:Nat}{a0:TProgram}{i2_20:Nat}{l_16b:List Trow}{out_16b:List Bool}{i_16b:Nat}{i_20:Int}(C1:¬(i2_20:Int)<a0.Vars):
  Leave 0 (exec Tryz.prog (tab (n+4)) 0 115 (livesOf 29) big lst_C20) (livesOf 29 (outOf 20)) (lst_h20b a0 l_16b out_16b i_16b i_20 i2_20) (.exit 4) (lst_o20b_a a0 l_16b out_16b i_16b i_20):=by
 apply Leave_m
 simp+decide [lst_h20b,loopsOf, Tryz.f29,lst_o20b_a,lst_C16,lst_C20,C1]
section
variable {r58 : List Trow} {a0 : TProgram} {out_20 : List Trow} {r57 : Int} {fz_20 : Nat} {r59 : Bool} {out_16 : List Bool} {out2_8 : List Trow} {n : Nat} {i_20 : Int}
section
variable(C1:1≤a0.Vars)(L2:loopG Tryz.prog (tab (n+4)) 0 115 (livesOf 29) 20 lst_C20 (lst_h20 a0 out2_8 out_16 (-1) 0 0)=some (.exit 4,lst_o20a a0 out_20 out_16 i_20 fz_20))(K3:run (n+3) 64 [.sl 2 (out_20.map rowC),.lit (.int .i64 i_20)]=some (.lit (.int .i64 r57)))
include C1 L2 K3
theorem lst_r16_1(C4:¬20000<r57)(K5:run (n+3) 65 [.sl 2 (out_20.map rowC),.lit (.int .i64 i_20),.lit (.int .i64 1)]=some (.tup [.sl 2 (r58.map rowC),.lit (.bool r59)]))(C6:r59=true)(G7:i_20.toNat<out_16.length)(Z7:0≤i_20):
  Cont 0 (exec Tryz.prog (tab (n+4)) 0 115 (livesOf 29) big lst_C16) (livesOf 29 16) (lst_h16 a0 out2_8 out_16) (lst_h16b a0 r58 (out_16.set i_20.toNat true) 2):=by
 apply Cont_m
 simp+decide [lst_h16,loopsOf, Tryz.f29,lst_C16,lst_h16b,C1]
 rw [loopX_G (C':=lst_C20) (e:=(lst_h20 a0 out2_8 out_16 (-1) 0 0)) ?_ ?_,L2]
 rotate_left
 ·kernel_rfl
 ·simp+decide [lst_h20, Tryz.f29]
 simp+decide [lst_o20a, Tryz.f29,K3,C4,K5,C6,G7,Z7]
theorem lst_x16_1(C4:20000<r57):
  Leave 0 (exec Tryz.prog (tab (n+4)) 0 115 (livesOf 29) big lst_C16) (livesOf 29 (outOf 16)) (lst_h16 a0 out2_8 out_16) (.ret) (lst_o16a a0 out_20):=by
 apply Leave_m
 simp+decide [lst_h16,loopsOf, Tryz.f29,lst_o16a,lst_C16,C1]
 rw [loopX_G (C':=lst_C20) (e:=(lst_h20 a0 out2_8 out_16 (-1) 0 0)) ?_ ?_,L2]
 rotate_left
 ·kernel_rfl
 ·simp+decide [lst_h20, Tryz.f29]
 simp+decide [lst_o20a, Tryz.f29,K3,C4]
theorem lst_x16_2(C4:¬20000<r57)(K5:run (n+3) 65 [.sl 2 (out_20.map rowC),.lit (.int .i64 i_20),.lit (.int .i64 1)]=some (.tup [.sl 2 (r58.map rowC),.lit (.bool r59)]))(C6:r59=false):
  Leave 0 (exec Tryz.prog (tab (n+4)) 0 115 (livesOf 29) big lst_C16) (livesOf 29 (outOf 16)) (lst_h16 a0 out2_8 out_16) (.ret) (lst_o16b a0 r58):=by
 apply Leave_m
 simp+decide [lst_h16,loopsOf, Tryz.f29,lst_o16b,lst_C16,C1]
 rw [loopX_G (C':=lst_C20) (e:=(lst_h20 a0 out2_8 out_16 (-1) 0 0)) ?_ ?_,L2]
 rotate_left
 ·kernel_rfl
 ·simp+decide [lst_h20, Tryz.f29]
 simp+decide [lst_o20a, Tryz.f29,K3,C4,K5,C6]
end
theorem lst_x16_3(C1:¬1≤a0.Vars):
  Leave 0 (exec Tryz.prog (tab (n+4)) 0 115 (livesOf 29) big lst_C16) (livesOf 29 (outOf 16)) (lst_h16 a0 out2_8 out_16) (.exit 2) (lst_o16c a0 out2_8):=by
 apply Leave_m
 simp+decide [lst_h16,loopsOf, Tryz.f29,lst_o16c,lst_C16,C1]
end
theorem lst_r16b_1{n:Nat}{a0:TProgram}{i_16b:Nat}{l_16b:List Trow}{out_16b:List Bool}{i_20:Int}{r64:Int}{r65:List Trow}{r66:Bool}(C1:(i_16b:Int)≤a0.Vars)(L2:loopG Tryz.prog (tab (n+4)) 0 115 (livesOf 29) 20 lst_C20 (lst_h20b a0 l_16b out_16b i_16b (-1) 0)=some (.exit 4,lst_o20b_a a0 l_16b out_16b i_16b i_20))(K3:run (n+3) 64 [.sl 2 (l_16b.map rowC),.lit (.int .i64 i_20)]=some (.lit (.int .i64 r64)))(C4:¬20000<r64)(K5:run (n+3) 65 [.sl 2 (l_16b.map rowC),.lit (.int .i64 i_20),.lit (.int .i64 (i_16b:Int))]=some (.tup [.sl 2 (r65.map rowC),.lit (.bool r66)]))(C6:r66=true)(G7:i_20.toNat<out_16b.length)(Z7:0≤i_20)(W9:InI ((i_16b:Int)+1)):
  Cont 0 (exec Tryz.prog (tab (n+4)) 0 115 (livesOf 29) big lst_C16) (livesOf 29 16) (lst_h16b a0 l_16b out_16b i_16b) (lst_h16b a0 r65 (out_16b.set i_20.toNat true) (i_16b+1)):=by
 have W9_:IntKind.i64.wrap ((i_16b:Int)+1)=(i_16b:Int)+1:=wr64 W9.1 W9.2
 apply Cont_m
 simp+decide [lst_h16b,loopsOf, Tryz.f29,lst_C16,C1]
 rw [loopX_G (C':=lst_C20) (e:=(lst_h20b a0 l_16b out_16b i_16b (-1) 0)) ?_ ?_,L2]
 rotate_left
 ·kernel_rfl
 ·simp+decide [lst_h20b, Tryz.f29]
 simp+decide [lst_o20b_a, Tryz.f29,K3,C4,K5,C6,G7,Z7,W9_]
theorem lst_x16b_1{n:Nat}{a0:TProgram}{i_16b:Nat}{l_16b:List Trow}{out_16b:List Bool}{i_20:Int}{r64:Int}(C1:(i_16b:Int)≤a0.Vars)(L2:loopG Tryz.prog (tab (n+4)) 0 115 (livesOf 29) 20 lst_C20 (lst_h20b a0 l_16b out_16b i_16b (-1) 0)=some (.exit 4,lst_o20b_a a0 l_16b out_16b i_16b i_20))(K3:run (n+3) 64 [.sl 2 (l_16b.map rowC),.lit (.int .i64 i_20)]=some (.lit (.int .i64 r64)))(C4:20000<r64):
  Leave 0 (exec Tryz.prog (tab (n+4)) 0 115 (livesOf 29) big lst_C16) (livesOf 29 (outOf 16)) (lst_h16b a0 l_16b out_16b i_16b) (.ret) (lst_o16d a0 l_16b):=by
 apply Leave_m
 simp+decide [lst_h16b,loopsOf, Tryz.f29,lst_o16d,lst_C16,C1]
 rw [loopX_G (C':=lst_C20) (e:=(lst_h20b a0 l_16b out_16b i_16b (-1) 0)) ?_ ?_,L2]
 rotate_left
 ·kernel_rfl
 ·simp+decide [lst_h20b, Tryz.f29]
 simp+decide [lst_o20b_a, Tryz.f29,K3,C4]
theorem lst_x16b_2{n:Nat}{a0:TProgram}{i_16b:Nat}{l_16b:List Trow}{out_16b:List Bool}{i_20:Int}{r64:Int}{r65:List Trow}{r66:Bool}(C1:(i_16b:Int)≤a0.Vars)(L2:loopG Tryz.prog (tab (n+4)) 0 115 (livesOf 29) 20 lst_C20 (lst_h20b a0 l_16b out_16b i_16b (-1) 0)=some (.exit 4,lst_o20b_a a0 l_16b out_16b i_16b i_20))(K3:run (n+3) 64 [.sl 2 (l_16b.map rowC),.lit (.int .i64 i_20)]=some (.lit (.int .i64 r64)))(C4:¬20000<r64)(K5:run (n+3) 65 [.sl 2 (l_16b.map rowC),.lit (.int .i64 i_20),.lit (.int .i64 (i_16b:Int))]=some (.tup [.sl 2 (r65.map rowC),.lit (.bool r66)]))(C6:r66=false):
  Leave 0 (exec Tryz.prog (tab (n+4)) 0 115 (livesOf 29) big lst_C16) (livesOf 29 (outOf 16)) (lst_h16b a0 l_16b out_16b i_16b) (.ret) (lst_o16e a0 r65):=by
 apply Leave_m
 simp+decide [lst_h16b,loopsOf, Tryz.f29,lst_o16e,lst_C16,C1]
 rw [loopX_G (C':=lst_C20) (e:=(lst_h20b a0 l_16b out_16b i_16b (-1) 0)) ?_ ?_,L2]
 rotate_left
 ·kernel_rfl
 ·simp+decide [lst_h20b, Tryz.f29]
 simp+decide [lst_o20b_a, Tryz.f29,K3,C4,K5,C6]
theorem lst_x16b_3{n:Nat}{a0:TProgram}{i_16b:Nat}{l_16b:List Trow}{out_16b:List Bool}(C1:¬(i_16b:Int)≤a0.Vars):
  Leave 0 (exec Tryz.prog (tab (n+4)) 0 115 (livesOf 29) big lst_C16) (livesOf 29 (outOf 16)) (lst_h16b a0 l_16b out_16b i_16b) (.exit 2) (lst_o16f a0 l_16b):=by
 apply Leave_m
 simp+decide [lst_h16b,loopsOf, Tryz.f29,lst_o16f,lst_C16,C1]
section
variable {a0 : TProgram} {r3 : Form} {r2 : Form} {r : Form} {out2_8 : List Trow} {n : Nat} {out_20 : List Trow} {r58 : List Trow} {r68 : Rat} {r67 : Int} {l_16b : List Trow} {r65 : List Trow} {r69 : Int} {r70 : Rat}
section
variable(K1:run (n+3) 62 [.lit (.int .i64 (a0.Vars))]=some (formV r))(K2:run (n+3) 61 [formV r,formV a0.Objective]=some (formV r2))(K4:run (n+3) 41 [formV r2,ratV (ofQ (-1))]=some (formV r3))(M5:a0.Rows.length+2≤100000000)(C6:¬62<(a0.Rows.length+2:Int))
include K1 K2 K4 M5 C6
theorem lst_f2(L7:loopG Tryz.prog (tab (n+4)) 0 115 (livesOf 29) 8 lst_C8 (lst_h8 a0 ([r2,r3]++a0.Rows) [] 0)=some (.ret,lst_o8a a0 out2_8)):
  run (n+4) 29 [programV a0]=some (.tup [.lit (.int .i64 0),.agg [.lit (.bool false),.sl 1 [],.sl 1 []]]):=by
 simp only [formV] at K1
 simp only [formV] at K2
 have K3:=r_ofq (z:=(-1)) (by omega) (by omega)
 simp only [ratV,formV] at K4
 have M5_:∀b,b≤10000→roomy (a0.Rows.length+2) b=true:=fun b hb=>roomy_s M5 hb
 have M5_r:2+(a0.Rows.length)=a0.Rows.length+2:=Nat.add_comm _ _
 unfold run fnP
 simp+decide [Tryz.f29,K1,K2,K3,K4,M5_,M5_r,C6]
 rw [loopX_G (C':=lst_C8) (e:=(lst_h8 a0 ([r2,r3]++a0.Rows) [] 0)) ?_ ?_,L7]
 rotate_left
 ·kernel_rfl
 ·simp+decide [lst_h8]
 simp+decide [lst_o8a]
section
variable(L7:loopG Tryz.prog (tab (n+4)) 0 115 (livesOf 29) 8 lst_C8 (lst_h8 a0 ([r2,r3]++a0.Rows) [] 0)=some (.exit 0,lst_o8b a0 out2_8))(M8:a0.Vars.toNat≤100000000)(C9:0≤a0.Vars)
include L7 M8 C9
theorem lst_f3(L10:loopG Tryz.prog (tab (n+4)) 0 115 (livesOf 29) 16 lst_C16 (lst_h16 a0 out2_8 (List.replicate a0.Vars.toNat false))=some (.ret,lst_o16a a0 out_20)):
  run (n+4) 29 [programV a0]=some (.tup [.lit (.int .i64 0),.agg [.lit (.bool false),.sl 1 [],.sl 1 []]]):=by
 simp only [formV] at K1
 simp only [formV] at K2
 have K3:=r_ofq (z:=(-1)) (by omega) (by omega)
 simp only [ratV,formV] at K4
 have M5_:∀b,b≤10000→roomy (a0.Rows.length+2) b=true:=fun b hb=>roomy_s M5 hb
 have M5_r:2+(a0.Rows.length)=a0.Rows.length+2:=Nat.add_comm _ _
 have M8_:∀b,b≤10000→roomy (a0.Vars.toNat) b=true:=fun b hb=>roomy_s M8 hb
 unfold run fnP
 simp+decide [Tryz.f29,K1,K2,K3,K4,M5_,M5_r,C6]
 rw [loopX_G (C':=lst_C8) (e:=(lst_h8 a0 ([r2,r3]++a0.Rows) [] 0)) ?_ ?_,L7]
 rotate_left
 ·kernel_rfl
 ·simp+decide [lst_h8]
 simp+decide [lst_o8b,M8_,C9]
 rw [loopX_G (C':=lst_C16) (e:=(lst_h16 a0 out2_8 (List.replicate a0.Vars.toNat false))) ?_ ?_,L10]
 rotate_left
 ·kernel_rfl
 ·simp+decide [lst_h16]
 simp+decide [lst_o16a]
theorem lst_f4(L10:loopG Tryz.prog (tab (n+4)) 0 115 (livesOf 29) 16 lst_C16 (lst_h16 a0 out2_8 (List.replicate a0.Vars.toNat false))=some (.ret,lst_o16b a0 r58)):
  run (n+4) 29 [programV a0]=some (.tup [.lit (.int .i64 0),.agg [.lit (.bool false),.sl 1 [],.sl 1 []]]):=by
 simp only [formV] at K1
 simp only [formV] at K2
 have K3:=r_ofq (z:=(-1)) (by omega) (by omega)
 simp only [ratV,formV] at K4
 have M5_:∀b,b≤10000→roomy (a0.Rows.length+2) b=true:=fun b hb=>roomy_s M5 hb
 have M5_r:2+(a0.Rows.length)=a0.Rows.length+2:=Nat.add_comm _ _
 have M8_:∀b,b≤10000→roomy (a0.Vars.toNat) b=true:=fun b hb=>roomy_s M8 hb
 unfold run fnP
 simp+decide [Tryz.f29,K1,K2,K3,K4,M5_,M5_r,C6]
 rw [loopX_G (C':=lst_C8) (e:=(lst_h8 a0 ([r2,r3]++a0.Rows) [] 0)) ?_ ?_,L7]
 rotate_left
 ·kernel_rfl
 ·simp+decide [lst_h8]
 simp+decide [lst_o8b,M8_,C9]
 rw [loopX_G (C':=lst_C16) (e:=(lst_h16 a0 out2_8 (List.replicate a0.Vars.toNat false))) ?_ ?_,L10]
 rotate_left
 ·kernel_rfl
 ·simp+decide [lst_h16]
 simp+decide [lst_o16b]
theorem lst_f5(L10:loopG Tryz.prog (tab (n+4)) 0 115 (livesOf 29) 16 lst_C16 (lst_h16 a0 out2_8 (List.replicate a0.Vars.toNat false))=some (.exit 2,lst_o16c a0 out2_8))(K11:run (n+3) 66 [.sl 2 (out2_8.map rowC),.lit (.int .i64 (a0.Vars))]=some (.tup [.lit (.int .i64 r67),ratV r68])):
  run (n+4) 29 [programV a0]=some (.tup [.lit (.int .i64 r67),ratV r68]):=by
 simp only [formV] at K1
 simp only [formV] at K2
 have K3:=r_ofq (z:=(-1)) (by omega) (by omega)
 simp only [ratV,formV] at K4
 have M5_:∀b,b≤10000→roomy (a0.Rows.length+2) b=true:=fun b hb=>roomy_s M5 hb
 have M5_r:2+(a0.Rows.length)=a0.Rows.length+2:=Nat.add_comm _ _
 have M8_:∀b,b≤10000→roomy (a0.Vars.toNat) b=true:=fun b hb=>roomy_s M8 hb
 simp only [ratV] at K11
 unfold run fnP
 simp+decide [Tryz.f29,K1,K2,K3,K4,M5_,M5_r,C6]
 rw [loopX_G (C':=lst_C8) (e:=(lst_h8 a0 ([r2,r3]++a0.Rows) [] 0)) ?_ ?_,L7]
 rotate_left
 ·kernel_rfl
 ·simp+decide [lst_h8]
 simp+decide [lst_o8b,M8_,C9]
 rw [loopX_G (C':=lst_C16) (e:=(lst_h16 a0 out2_8 (List.replicate a0.Vars.toNat false))) ?_ ?_,L10]
 rotate_left
 ·kernel_rfl
 ·simp+decide [lst_h16]
 simp+decide [lst_o16c,K11]
theorem lst_f6(L10:loopG Tryz.prog (tab (n+4)) 0 115 (livesOf 29) 16 lst_C16 (lst_h16 a0 out2_8 (List.replicate a0.Vars.toNat false))=some (.ret,lst_o16d a0 l_16b)):
  run (n+4) 29 [programV a0]=some (.tup [.lit (.int .i64 0),.agg [.lit (.bool false),.sl 1 [],.sl 1 []]]):=by
 simp only [formV] at K1
 simp only [formV] at K2
 have K3:=r_ofq (z:=(-1)) (by omega) (by omega)
 simp only [ratV,formV] at K4
 have M5_:∀b,b≤10000→roomy (a0.Rows.length+2) b=true:=fun b hb=>roomy_s M5 hb
 have M5_r:2+(a0.Rows.length)=a0.Rows.length+2:=Nat.add_comm _ _
 have M8_:∀b,b≤10000→roomy (a0.Vars.toNat) b=true:=fun b hb=>roomy_s M8 hb
 unfold run fnP
 simp+decide [Tryz.f29,K1,K2,K3,K4,M5_,M5_r,C6]
 rw [loopX_G (C':=lst_C8) (e:=(lst_h8 a0 ([r2,r3]++a0.Rows) [] 0)) ?_ ?_,L7]
 rotate_left
 ·kernel_rfl
 ·simp+decide [lst_h8]
 simp+decide [lst_o8b,M8_,C9]
 rw [loopX_G (C':=lst_C16) (e:=(lst_h16 a0 out2_8 (List.replicate a0.Vars.toNat false))) ?_ ?_,L10]
 rotate_left
 ·kernel_rfl
 ·simp+decide [lst_h16]
 simp+decide [lst_o16d]
theorem lst_f7(L10:loopG Tryz.prog (tab (n+4)) 0 115 (livesOf 29) 16 lst_C16 (lst_h16 a0 out2_8 (List.replicate a0.Vars.toNat false))=some (.ret,lst_o16e a0 r65)):
  run (n+4) 29 [programV a0]=some (.tup [.lit (.int .i64 0),.agg [.lit (.bool false),.sl 1 [],.sl 1 []]]):=by
 simp only [formV] at K1
 simp only [formV] at K2
 have K3:=r_ofq (z:=(-1)) (by omega) (by omega)
 simp only [ratV,formV] at K4
 have M5_:∀b,b≤10000→roomy (a0.Rows.length+2) b=true:=fun b hb=>roomy_s M5 hb
 have M5_r:2+(a0.Rows.length)=a0.Rows.length+2:=Nat.add_comm _ _
 have M8_:∀b,b≤10000→roomy (a0.Vars.toNat) b=true:=fun b hb=>roomy_s M8 hb
 unfold run fnP
 simp+decide [Tryz.f29,K1,K2,K3,K4,M5_,M5_r,C6]
 rw [loopX_G (C':=lst_C8) (e:=(lst_h8 a0 ([r2,r3]++a0.Rows) [] 0)) ?_ ?_,L7]
 rotate_left
 ·kernel_rfl
 ·simp+decide [lst_h8]
 simp+decide [lst_o8b,M8_,C9]
 rw [loopX_G (C':=lst_C16) (e:=(lst_h16 a0 out2_8 (List.replicate a0.Vars.toNat false))) ?_ ?_,L10]
 rotate_left
 ·kernel_rfl
 ·simp+decide [lst_h16]
 simp+decide [lst_o16e]
theorem lst_f8(L10:loopG Tryz.prog (tab (n+4)) 0 115 (livesOf 29) 16 lst_C16 (lst_h16 a0 out2_8 (List.replicate a0.Vars.toNat false))=some (.exit 2,lst_o16f a0 l_16b))(K11:run (n+3) 66 [.sl 2 (l_16b.map rowC),.lit (.int .i64 (a0.Vars))]=some (.tup [.lit (.int .i64 r69),ratV r70])):
  run (n+4) 29 [programV a0]=some (.tup [.lit (.int .i64 r69),ratV r70]):=by
 simp only [formV] at K1
 simp only [formV] at K2
 have K3:=r_ofq (z:=(-1)) (by omega) (by omega)
 simp only [ratV,formV] at K4
 have M5_:∀b,b≤10000→roomy (a0.Rows.length+2) b=true:=fun b hb=>roomy_s M5 hb
 have M5_r:2+(a0.Rows.length)=a0.Rows.length+2:=Nat.add_comm _ _
 have M8_:∀b,b≤10000→roomy (a0.Vars.toNat) b=true:=fun b hb=>roomy_s M8 hb
 simp only [ratV] at K11
 unfold run fnP
 simp+decide [Tryz.f29,K1,K2,K3,K4,M5_,M5_r,C6]
 rw [loopX_G (C':=lst_C8) (e:=(lst_h8 a0 ([r2,r3]++a0.Rows) [] 0)) ?_ ?_,L7]
 rotate_left
 ·kernel_rfl
 ·simp+decide [lst_h8]
 simp+decide [lst_o8b,M8_,C9]
 rw [loopX_G (C':=lst_C16) (e:=(lst_h16 a0 out2_8 (List.replicate a0.Vars.toNat false))) ?_ ?_,L10]
 rotate_left
 ·kernel_rfl
 ·simp+decide [lst_h16]
 simp+decide [lst_o16f,K11]
end
end
end
end
section
open Go.RowKit
noncomputable def bts_C2:Code:=(loopsOf (bodyOf Tryz.f95)).getD 0 .skip
def bts_h2(i_2:Int)(i2_2:Int):St:=
 ⟨[(0,.lit (.int .u64 i_2)),(3,.lit (.int .i64 i2_2))],
  [],0⟩
def bts_o2a(i2_2:Int):St:=
 ⟨[(3,.lit (.int .i64 i2_2))],
  [],0⟩
section
variable {i_2 : Int} {i2_2 : Int} {n : Nat} {a0 : Int}
theorem bts_r2_1(C1:0<i_2)(W2:InI (i_2.tmod 2))(W3:InI (i2_2+(i_2.tmod 2)))(W4:IntKind.u64.wrap (i_2.tdiv 2)=i_2.tdiv 2):
  Cont 0 (exec Tryz.prog (tab n) 0 14 (livesOf 95) big bts_C2) (livesOf 95 2) (bts_h2 i_2 i2_2) (bts_h2 (i_2.tdiv 2) (i2_2+(i_2.tmod 2))):=by
 have W2_:IntKind.i64.wrap (i_2.tmod 2)=i_2.tmod 2:=wr64 W2.1 W2.2
 have W3_:IntKind.i64.wrap (i2_2+(i_2.tmod 2))=i2_2+(i_2.tmod 2):=wr64 W3.1 W3.2
 apply Cont_m
 simp+decide [bts_h2,loopsOf, Tryz.f95,bts_C2,C1,W2_,W3_,W4]
theorem bts_x2_1(C1:¬0<i_2):
  Leave 0 (exec Tryz.prog (tab n) 0 14 (livesOf 95) big bts_C2) (livesOf 95 (outOf 2)) (bts_h2 i_2 i2_2) (.exit 0) (bts_o2a i2_2):=by
 apply Leave_m
 simp+decide [bts_h2,loopsOf, Tryz.f95,bts_o2a,bts_C2,C1]
theorem bts_f1(L1:loopG Tryz.prog (tab n) 0 14 (livesOf 95) 2 bts_C2 (bts_h2 a0 0)=some (.exit 0,bts_o2a i2_2)):
  run n 95 [.lit (.int .u64 a0)]=some (.lit (.int .i64 i2_2)):=by
 unfold run fnP
 simp+decide [Tryz.f95]
 rw [loopX_G (C':=bts_C2) (e:=(bts_h2 a0 0)) ?_ ?_,L1]
 rotate_left
 ·kernel_rfl
 ·simp+decide [bts_h2]
 simp+decide [bts_o2a]
end
noncomputable def prs_C3:Code:=(loopsOf (bodyOf Tryz.f64)).getD 0 .skip
def prs_h3(a0:List Trow)(a1:Int)(i_3:Nat)(i2_3:Nat)(i3_3:Nat):St:=
 ⟨[(0,.sl 2 (a0.map rowC)),(1,.lit (.int .i64 a1)),(5,.lit (.int .i64 (i_3:Int))),(6,.lit (.int .i64 (i2_3:Int))),(7,.lit (.int .i64 (i3_3:Int)))],
  [],0⟩
def prs_o3a(i_3:Nat)(i2_3:Nat):St:=
 ⟨[(5,.lit (.int .i64 (i_3:Int))),(6,.lit (.int .i64 (i2_3:Int)))],
  [],0⟩
section
variable {a0 : List Trow} {i3_3 : Nat} {i_3 : Nat} {a1 : Int} {i2_3 : Nat} {x5 : Trow} {x6 : Int} {n : Nat}
section
variable(C1:(i3_3:Int)<(a0.length:Int))(E2:a0[i3_3]?=some x5)(E3:x5.c[a1.toNat]?=some x6)(Z3:0≤a1)
include C1 E2 E3 Z3
theorem prs_r3_2(C4:0<x6)(W5:InI ((i_3:Int)+1))(C6:¬x6<0)(W7:InI ((i3_3:Int)+1)):
  Cont 0 (exec Tryz.prog (tab n) 0 39 (livesOf 64) big prs_C3) (livesOf 64 3) (prs_h3 a0 a1 i_3 i2_3 i3_3) (prs_h3 a0 a1 (i_3+1) i2_3 (i3_3+1)):=by
 have C1_:i3_3<a0.length:=by omega
 obtain ⟨EL2,EG2⟩:=List.getElem?_eq_some_iff.1 E2
 obtain ⟨EL3,EG3⟩:=List.getElem?_eq_some_iff.1 E3
 have W5_:IntKind.i64.wrap ((i_3:Int)+1)=(i_3:Int)+1:=wr64 W5.1 W5.2
 have W7_:IntKind.i64.wrap ((i3_3:Int)+1)=(i3_3:Int)+1:=wr64 W7.1 W7.2
 apply Cont_m
 simp+decide [prs_h3,loopsOf, Tryz.f64,prs_C3,C1,C1_,EG2,EL3,EG3,Z3,C4,W5_,C6,W7_]
theorem prs_r3_3(C4:¬0<x6)(C5:x6<0)(W6:InI ((i2_3:Int)+1))(W7:InI ((i3_3:Int)+1)):
  Cont 0 (exec Tryz.prog (tab n) 0 39 (livesOf 64) big prs_C3) (livesOf 64 3) (prs_h3 a0 a1 i_3 i2_3 i3_3) (prs_h3 a0 a1 i_3 (i2_3+1) (i3_3+1)):=by
 have C1_:i3_3<a0.length:=by omega
 obtain ⟨EL2,EG2⟩:=List.getElem?_eq_some_iff.1 E2
 obtain ⟨EL3,EG3⟩:=List.getElem?_eq_some_iff.1 E3
 have W6_:IntKind.i64.wrap ((i2_3:Int)+1)=(i2_3:Int)+1:=wr64 W6.1 W6.2
 have W7_:IntKind.i64.wrap ((i3_3:Int)+1)=(i3_3:Int)+1:=wr64 W7.1 W7.2
 apply Cont_m
 simp+decide [prs_h3,loopsOf, Tryz.f64,prs_C3,C1,C1_,EG2,EL3,EG3,Z3,C4,C5,W6_,W7_]
theorem prs_r3_4(C4:¬0<x6)(C5:¬x6<0)(W6:InI ((i3_3:Int)+1)):
  Cont 0 (exec Tryz.prog (tab n) 0 39 (livesOf 64) big prs_C3) (livesOf 64 3) (prs_h3 a0 a1 i_3 i2_3 i3_3) (prs_h3 a0 a1 i_3 i2_3 (i3_3+1)):=by
 have C1_:i3_3<a0.length:=by omega
 obtain ⟨EL2,EG2⟩:=List.getElem?_eq_some_iff.1 E2
 obtain ⟨EL3,EG3⟩:=List.getElem?_eq_some_iff.1 E3
 have W6_:IntKind.i64.wrap ((i3_3:Int)+1)=(i3_3:Int)+1:=wr64 W6.1 W6.2
 apply Cont_m
 simp+decide [prs_h3,loopsOf, Tryz.f64,prs_C3,C1,C1_,EG2,EL3,EG3,Z3,C4,C5,W6_]
end
theorem prs_x3_1(C1:¬(i3_3:Int)<(a0.length:Int)):
  Leave 0 (exec Tryz.prog (tab n) 0 39 (livesOf 64) big prs_C3) (livesOf 64 (outOf 3)) (prs_h3 a0 a1 i_3 i2_3 i3_3) (.exit 0) (prs_o3a i_3 i2_3):=by
 apply Leave_m
 simp+decide [prs_h3,loopsOf, Tryz.f64,prs_o3a,prs_C3,C1]
theorem prs_f1(L1:loopG Tryz.prog (tab n) 0 39 (livesOf 64) 3 prs_C3 (prs_h3 a0 a1 0 0 0)=some (.exit 0,prs_o3a i_3 i2_3))(W2:InI ((i_3:Int)*(i2_3:Int))):
  run n 64 [.sl 2 (a0.map rowC),.lit (.int .i64 a1)]=some (.lit (.int .i64 ((i_3:Int)*(i2_3:Int)))):=by
 have W2_:IntKind.i64.wrap ((i_3:Int)*(i2_3:Int))=(i_3:Int)*(i2_3:Int):=wr64 W2.1 W2.2
 unfold run fnP
 simp+decide [Tryz.f64]
 rw [loopX_G (C':=prs_C3) (e:=(prs_h3 a0 a1 0 0 0)) ?_ ?_,L1]
 rotate_left
 ·kernel_rfl
 ·simp+decide [prs_h3]
 simp+decide [prs_o3a,W2_]
end
noncomputable def eli_C3:Code:=(loopsOf (bodyOf Tryz.f65)).getD 0 .skip
noncomputable def eli_C8:Code:=(loopsOf (bodyOf Tryz.f65)).getD 1 .skip
noncomputable def eli_C11:Code:=(loopsOf eli_C8).getD 0 .skip
noncomputable def eli_C16:Code:=(loopsOf eli_C11).getD 0 .skip
def eli_h3(a0:List Trow)(a1:Int)(a2:Int)(out_3:List Trow)(i_3:Nat):St:=
 ⟨[(0,.sl 2 (a0.map rowC)),(1,.lit (.int .i64 a1)),(2,.lit (.int .i64 a2)),(8,.own 0 out_3.length),(9,.lit (.int .i64 (i_3:Int)))],
  [(0,some (.row 93 2 (out_3.map rowC) 0))],1⟩
def eli_h16(a0:List Trow)(a1:Int)(a2:Int)(out_11:List Trow)(i_8:Nat)(i_11:Nat)(out_16:List Int)(i_16:Nat):St:=
 ⟨[(0,.sl 2 (a0.map rowC)),(1,.lit (.int .i64 a1)),(2,.lit (.int .i64 a2)),(8,.own 0 out_11.length),(10,.lit (.int .i64 (i_8:Int))),(11,.lit (.int .i64 (i_11:Int))),(12,.own 1 out_16.length),(13,.lit (.int .i64 (i_16:Int)))],
  [(0,some (.row 93 2 (out_11.map rowC) 0)),
   (1,some (.row 3 1 (out_16.map intI64C) 0))],2⟩
def eli_h11(a0:List Trow)(a1:Int)(a2:Int)(out_11:List Trow)(i_8:Nat)(i_11:Nat):St:=
 ⟨[(0,.sl 2 (a0.map rowC)),(1,.lit (.int .i64 a1)),(2,.lit (.int .i64 a2)),(8,.own 0 out_11.length),(10,.lit (.int .i64 (i_8:Int))),(11,.lit (.int .i64 (i_11:Int)))],
  [(0,some (.row 93 2 (out_11.map rowC) 0))],1⟩
def eli_h8(a0:List Trow)(a1:Int)(a2:Int)(out_8:List Trow)(i_8:Nat):St:=
 ⟨[(0,.sl 2 (a0.map rowC)),(1,.lit (.int .i64 a1)),(2,.lit (.int .i64 a2)),(8,.own 0 out_8.length),(10,.lit (.int .i64 (i_8:Int)))],
  [(0,some (.row 93 2 (out_8.map rowC) 0))],1⟩
def eli_o3a(a0:List Trow)(a1:Int)(a2:Int)(out_3:List Trow):St:=
 ⟨[(0,.sl 2 (a0.map rowC)),(1,.lit (.int .i64 a1)),(2,.lit (.int .i64 a2)),(8,.own 0 out_3.length)],
  [(0,some (.row 93 2 (out_3.map rowC) 0))],1⟩
def eli_o16a(a0:List Trow)(a1:Int)(a2:Int)(out_11:List Trow)(i_8:Nat)(i_11:Nat)(out_16:List Int):St:=
 ⟨[(0,.sl 2 (a0.map rowC)),(1,.lit (.int .i64 a1)),(2,.lit (.int .i64 a2)),(8,.own 0 out_11.length),(10,.lit (.int .i64 (i_8:Int))),(11,.lit (.int .i64 (i_11:Int))),(12,.own 1 out_16.length)],
  [(0,some (.row 93 2 (out_11.map rowC) 0)),
   (1,some (.row 3 1 (out_16.map intI64C) 0))],2⟩
def eli_o11a(a0:List Trow)(a1:Int)(a2:Int)(out_11:List Trow)(i_8:Nat):St:=
 ⟨[(0,.sl 2 (a0.map rowC)),(1,.lit (.int .i64 a1)),(2,.lit (.int .i64 a2)),(6,.own 0 0),(7,.lit (.bool false)),(8,.own 1 out_11.length),(10,.lit (.int .i64 (i_8:Int)))],
  [(0,some (.row 93 2 [] 0)),
   (1,some (.row 93 2 (out_11.map rowC) 0))],2⟩
def eli_o11b(a0:List Trow)(a1:Int)(a2:Int)(out_11:List Trow)(i_8:Nat):St:=
 ⟨[(0,.sl 2 (a0.map rowC)),(1,.lit (.int .i64 a1)),(2,.lit (.int .i64 a2)),(6,.any),(7,.any),(8,.own 0 out_11.length),(10,.lit (.int .i64 (i_8:Int)))],
  [(0,some (.row 93 2 (out_11.map rowC) 0))],1⟩
def eli_o8a(out_11:List Trow):St:=
 ⟨[(6,.own 0 0),(7,.lit (.bool false)),(8,.own 1 out_11.length)],
  [(0,some (.row 93 2 [] 0)),
   (1,some (.row 93 2 (out_11.map rowC) 0))],2⟩
def eli_o8b(out_8:List Trow):St:=
 ⟨[(6,.any),(7,.any),(8,.own 0 out_8.length)],
  [(0,some (.row 93 2 (out_8.map rowC) 0))],1⟩
section
variable {a0 : List Trow} {i_3 : Nat} {a2 : Int} {a1 : Int} {out_3 : List Trow} {x5 : Trow} {x6 : Int} {n : Nat} {x205 : Trow} {out_11 : List Trow} {x207 : Int} {x208 : Int} {i_16 : Nat} {x206 : Int} {x204 : Int} {x203 : Trow} {i_8 : Nat} {out_16 : List Int} {i_11 : Nat} {x188 : Int} {x187 : Trow} {x189 : Trow} {x190 : Int} {r17 : Int} {z17 : Int} {z18 : Int} {r18 : Bool} {R9 : List Int} {x209 : Trow} {x210 : Trow} {out_8 : List Trow}
theorem eli_r3_1(C1:(i_3:Int)<(a0.length:Int))(E2:a0[i_3]?=some x5)(E3:x5.c[a1.toNat]?=some x6)(Z3:0≤a1)(C4:x6=0)(M5:out_3.length+1≤100000000)(W6:InI ((i_3:Int)+1)):
  Cont 0 (exec Tryz.prog (tab (n+2)) 0 157 (livesOf 65) big eli_C3) (livesOf 65 3) (eli_h3 a0 a1 a2 out_3 i_3) (eli_h3 a0 a1 a2 (out_3++[x5]) (i_3+1)):=by
 have C1_:i_3<a0.length:=by omega
 obtain ⟨EL2,EG2⟩:=List.getElem?_eq_some_iff.1 E2
 obtain ⟨EL3,EG3⟩:=List.getElem?_eq_some_iff.1 E3
 have C4_:(x6==0)=true:=by rw [C4];simp
 have M5_:∀b,b≤10000→roomy (out_3.length+1) b=true:=fun b hb=>roomy_s M5 hb
 have W6_:IntKind.i64.wrap ((i_3:Int)+1)=(i_3:Int)+1:=wr64 W6.1 W6.2
 apply Cont_m
 simp+decide [eli_h3,loopsOf, Tryz.f65,eli_C3,C1,C1_,EG2,EL3,EG3,Z3,C4_,M5_,W6_]
theorem eli_r3_2(C1:(i_3:Int)<(a0.length:Int))(E2:a0[i_3]?=some x5)(E3:x5.c[a1.toNat]?=some x6)(Z3:0≤a1)(C4:¬x6=0)(W5:InI ((i_3:Int)+1)):
  Cont 0 (exec Tryz.prog (tab (n+2)) 0 157 (livesOf 65) big eli_C3) (livesOf 65 3) (eli_h3 a0 a1 a2 out_3 i_3) (eli_h3 a0 a1 a2 out_3 (i_3+1)):=by
 have C1_:i_3<a0.length:=by omega
 obtain ⟨EL2,EG2⟩:=List.getElem?_eq_some_iff.1 E2
 obtain ⟨EL3,EG3⟩:=List.getElem?_eq_some_iff.1 E3
 have C4_:(x6==0)=false:=by simpa using C4
 have W5_:IntKind.i64.wrap ((i_3:Int)+1)=(i_3:Int)+1:=wr64 W5.1 W5.2
 apply Cont_m
 simp+decide [eli_h3,loopsOf, Tryz.f65,eli_C3,C1,C1_,EG2,EL3,EG3,Z3,C4_,W5_]
theorem eli_x3_1(C1:¬(i_3:Int)<(a0.length:Int)):
  Leave 0 (exec Tryz.prog (tab (n+2)) 0 157 (livesOf 65) big eli_C3) (livesOf 65 (outOf 3)) (eli_h3 a0 a1 a2 out_3 i_3) (.exit 0) (eli_o3a a0 a1 a2 out_3):=by
 apply Leave_m
 simp+decide [eli_h3,loopsOf, Tryz.f65,eli_o3a,eli_C3,C1]
theorem eli_r16_1(C1:(i_16:Int)<(out_16.length:Int))(E2:a0[i_8]?=some x203)(E3:x203.c[i_16]?=some x204)(E4:a0[i_11]?=some x205)(E5:x205.c[a1.toNat]?=some x206)(Z5:0≤a1)(W6:InI ((-x206)))(W7:InI (x204*(-x206)))(E8:x205.c[i_16]?=some x207)(E9:x203.c[a1.toNat]?=some x208)(Z9:0≤a1)(W10:InI (x207*x208))(W11:InI ((x204*(-x206))+(x207*x208)))(G12:i_16<out_16.length)(W14:InI ((i_16:Int)+1)):
  Cont 0 (exec Tryz.prog (tab (n+2)) 0 157 (livesOf 65) big eli_C16) (livesOf 65 16) (eli_h16 a0 a1 a2 out_11 i_8 i_11 out_16 i_16) (eli_h16 a0 a1 a2 out_11 i_8 i_11 (out_16.set i_16 (((x204*(-x206))+(x207*x208)))) (i_16+1)):=by
 have C1_:i_16<out_16.length:=by omega
 obtain ⟨EL2,EG2⟩:=List.getElem?_eq_some_iff.1 E2
 obtain ⟨EL3,EG3⟩:=List.getElem?_eq_some_iff.1 E3
 obtain ⟨EL4,EG4⟩:=List.getElem?_eq_some_iff.1 E4
 obtain ⟨EL5,EG5⟩:=List.getElem?_eq_some_iff.1 E5
 have W6_:IntKind.i64.wrap ((-x206))=(-x206):=wr64 W6.1 W6.2
 have W7_:IntKind.i64.wrap (x204*(-x206))=x204*(-x206):=wr64 W7.1 W7.2
 obtain ⟨EL8,EG8⟩:=List.getElem?_eq_some_iff.1 E8
 obtain ⟨EL9,EG9⟩:=List.getElem?_eq_some_iff.1 E9
 have W10_:IntKind.i64.wrap (x207*x208)=x207*x208:=wr64 W10.1 W10.2
 have W11_:IntKind.i64.wrap ((x204*(-x206))+(x207*x208))=(x204*(-x206))+(x207*x208):=wr64 W11.1 W11.2
 have W14_:IntKind.i64.wrap ((i_16:Int)+1)=(i_16:Int)+1:=wr64 W14.1 W14.2
 apply Cont_m
 simp+decide [eli_h16,loopsOf, Tryz.f65,eli_C8,eli_C11,eli_C16,C1,C1_,EL2,EG2,EL3,EG3,EL4,EG4,EL5,EG5,Z5,W6_,W7_,EL8,EG8,EL9,EG9,W10_,W11_,W14_]
theorem eli_x16_1(C1:¬(i_16:Int)<(out_16.length:Int)):
  Leave 0 (exec Tryz.prog (tab (n+2)) 0 157 (livesOf 65) big eli_C16) (livesOf 65 (outOf 16)) (eli_h16 a0 a1 a2 out_11 i_8 i_11 out_16 i_16) (.exit 6) (eli_o16a a0 a1 a2 out_11 i_8 i_11 out_16):=by
 apply Leave_m
 simp+decide [eli_h16,loopsOf, Tryz.f65,eli_o16a,eli_C8,eli_C11,eli_C16,C1]
section
variable(C1:(i_11:Int)<(a0.length:Int))(E2:a0[i_8]?=some x187)(E3:x187.c[a1.toNat]?=some x188)(Z3:0≤a1)
include C1 E2 E3 Z3
theorem eli_r11_1(C4:x188≤0)(W5:InI ((i_11:Int)+1)):
  Cont 0 (exec Tryz.prog (tab (n+2)) 0 157 (livesOf 65) big eli_C11) (livesOf 65 11) (eli_h11 a0 a1 a2 out_11 i_8 i_11) (eli_h11 a0 a1 a2 out_11 i_8 (i_11+1)):=by
 obtain ⟨EL2,EG2⟩:=List.getElem?_eq_some_iff.1 E2
 obtain ⟨EL3,EG3⟩:=List.getElem?_eq_some_iff.1 E3
 have W5_:IntKind.i64.wrap ((i_11:Int)+1)=(i_11:Int)+1:=wr64 W5.1 W5.2
 apply Cont_m
 simp+decide [eli_h11,loopsOf, Tryz.f65,eli_C8,eli_C11,C1,EL2,EG2,EL3,EG3,Z3,C4,W5_]
section
variable(C4:¬x188≤0)(E5:a0[i_11]?=some x189)(E6:x189.c[a1.toNat]?=some x190)(Z6:0≤a1)
include C4 E5 E6 Z6
theorem eli_r11_2(C7:0≤x190)(W8:InI ((i_11:Int)+1)):
  Cont 0 (exec Tryz.prog (tab (n+2)) 0 157 (livesOf 65) big eli_C11) (livesOf 65 11) (eli_h11 a0 a1 a2 out_11 i_8 i_11) (eli_h11 a0 a1 a2 out_11 i_8 (i_11+1)):=by
 have C1_:i_11<a0.length:=by omega
 obtain ⟨EL2,EG2⟩:=List.getElem?_eq_some_iff.1 E2
 obtain ⟨EL3,EG3⟩:=List.getElem?_eq_some_iff.1 E3
 obtain ⟨EL5,EG5⟩:=List.getElem?_eq_some_iff.1 E5
 obtain ⟨EL6,EG6⟩:=List.getElem?_eq_some_iff.1 E6
 have W8_:IntKind.i64.wrap ((i_11:Int)+1)=(i_11:Int)+1:=wr64 W8.1 W8.2
 apply Cont_m
 simp+decide [eli_h11,loopsOf, Tryz.f65,eli_C8,eli_C11,C1,C1_,EL2,EG2,EL3,EG3,Z3,C4,EG5,EL6,EG6,C7,W8_]
section
variable(C7:¬0≤x190)(D8:IntKind.u64.wrap ((((x187.from_:Int) % 2 ^ IntKind.u64.bits).toNat ||| ((x189.from_:Int) % 2 ^ IntKind.u64.bits).toNat:Nat):Int)=z17)(K9:run (n+1) 95 [.lit (.int .u64 z17)]=some (.lit (.int .i64 r17)))(W10:InI (a2+1))
include C7 D8 K9 W10
theorem eli_r11_3(C11:a2+1<r17)(W12:InI ((i_11:Int)+1)):
  Cont 0 (exec Tryz.prog (tab (n+2)) 0 157 (livesOf 65) big eli_C11) (livesOf 65 11) (eli_h11 a0 a1 a2 out_11 i_8 i_11) (eli_h11 a0 a1 a2 out_11 i_8 (i_11+1)):=by
 have C1_:i_11<a0.length:=by omega
 obtain ⟨EL2,EG2⟩:=List.getElem?_eq_some_iff.1 E2
 obtain ⟨EL3,EG3⟩:=List.getElem?_eq_some_iff.1 E3
 obtain ⟨EL5,EG5⟩:=List.getElem?_eq_some_iff.1 E5
 obtain ⟨EL6,EG6⟩:=List.getElem?_eq_some_iff.1 E6
 have W10_:IntKind.i64.wrap (a2+1)=a2+1:=wr64 W10.1 W10.2
 have W12_:IntKind.i64.wrap ((i_11:Int)+1)=(i_11:Int)+1:=wr64 W12.1 W12.2
 apply Cont_m
 simp+decide [eli_h11,loopsOf, Tryz.f65,eli_C8,eli_C11,C1,C1_,EL2,EG2,EL3,EG3,Z3,C4,EG5,EL6,EG6,C7,D8,K9,W10_,C11,W12_]
section
variable(C11:¬a2+1<r17)(M12:x187.c.length≤100000000)(L13:loopG Tryz.prog (tab (n+2)) 0 157 (livesOf 65) 16 eli_C16 (eli_h16 a0 a1 a2 out_11 i_8 i_11 (List.replicate x187.c.length 0) 0)=some (.exit 6,eli_o16a a0 a1 a2 out_11 i_8 i_11 out_16))(K14:runL (n+1) 94 [.own 0 out_16.length] [.row 3 1 (out_16.map intI64C) 0]=some (.lit (.bool r18),[(0,.row 3 1 (R9.map intI64C) 0)]))(Q14:R9.length=out_16.length)
include C11 M12 L13 K14 Q14
theorem eli_r11_4(C15:r18=true)(E16:a0[i_8]?=some x209)(E17:a0[i_11]?=some x210)(D18:IntKind.u64.wrap ((((x209.from_:Int) % 2 ^ IntKind.u64.bits).toNat ||| ((x210.from_:Int) % 2 ^ IntKind.u64.bits).toNat:Nat):Int)=z18)(M19:out_11.length+1≤100000000)(W20:InI ((i_11:Int)+1)):
  Cont 0 (exec Tryz.prog (tab (n+2)) 0 157 (livesOf 65) big eli_C11) (livesOf 65 11) (eli_h11 a0 a1 a2 out_11 i_8 i_11) (eli_h11 a0 a1 a2 (out_11++[(⟨R9,z18⟩:Trow)]) i_8 (i_11+1)):=by
 have C1_:i_11<a0.length:=by omega
 obtain ⟨EL2,EG2⟩:=List.getElem?_eq_some_iff.1 E2
 obtain ⟨EL3,EG3⟩:=List.getElem?_eq_some_iff.1 E3
 obtain ⟨EL5,EG5⟩:=List.getElem?_eq_some_iff.1 E5
 obtain ⟨EL6,EG6⟩:=List.getElem?_eq_some_iff.1 E6
 have W10_:IntKind.i64.wrap (a2+1)=a2+1:=wr64 W10.1 W10.2
 have M12_:∀b,b≤10000→roomy (x187.c.length) b=true:=fun b hb=>roomy_s M12 hb
 rw [E2] at E16
 obtain rfl:=Option.some.inj E16
 rw [E5] at E17
 obtain rfl:=Option.some.inj E17
 try obtain rfl:=D8.symm.trans D18
 have M19_:∀b,b≤10000→roomy (out_11.length+1) b=true:=fun b hb=>roomy_s M19 hb
 have W20_:IntKind.i64.wrap ((i_11:Int)+1)=(i_11:Int)+1:=wr64 W20.1 W20.2
 apply Cont_m
 simp+decide [eli_h11,loopsOf, Tryz.f65,eli_C8,eli_C11,C1,C1_,EL2,EG2,EL3,EG3,Z3,C4,EG5,EL6,EG6,C7,D8,K9,W10_,C11,M12_]
 rw [loopX_G (C':=eli_C16) (e:=(eli_h16 a0 a1 a2 out_11 i_8 i_11 (List.replicate x187.c.length 0) 0)) ?_ ?_,L13]
 rotate_left
 ·kernel_rfl
 ·simp+decide [eli_h16, Tryz.f65]
 simp+decide [eli_o16a, Tryz.f65,C1_,EL2,EG2,EG5,D8,Q14,K14,C15,M19_,W20_]
theorem eli_x11_1(C15:r18=false):
  Leave 0 (exec Tryz.prog (tab (n+2)) 0 157 (livesOf 65) big eli_C11) (livesOf 65 (outOf 11)) (eli_h11 a0 a1 a2 out_11 i_8 i_11) (.ret) (eli_o11a a0 a1 a2 out_11 i_8):=by
 have C1_:i_11<a0.length:=by omega
 obtain ⟨EL2,EG2⟩:=List.getElem?_eq_some_iff.1 E2
 obtain ⟨EL3,EG3⟩:=List.getElem?_eq_some_iff.1 E3
 obtain ⟨EL5,EG5⟩:=List.getElem?_eq_some_iff.1 E5
 obtain ⟨EL6,EG6⟩:=List.getElem?_eq_some_iff.1 E6
 have W10_:IntKind.i64.wrap (a2+1)=a2+1:=wr64 W10.1 W10.2
 have M12_:∀b,b≤10000→roomy (x187.c.length) b=true:=fun b hb=>roomy_s M12 hb
 apply Leave_m
 simp+decide [eli_h11,loopsOf, Tryz.f65,eli_o11a,eli_C8,eli_C11,C1,C1_,EL2,EG2,EL3,EG3,Z3,C4,EG5,EL6,EG6,C7,D8,K9,W10_,C11,M12_]
 rw [loopX_G (C':=eli_C16) (e:=(eli_h16 a0 a1 a2 out_11 i_8 i_11 (List.replicate x187.c.length 0) 0)) ?_ ?_,L13]
 rotate_left
 ·kernel_rfl
 ·simp+decide [eli_h16, Tryz.f65]
 simp+decide [eli_o16a, Tryz.f65,K14,C15]
end
end
end
end
theorem eli_x11_2(C1:¬(i_11:Int)<(a0.length:Int)):
  Leave 0 (exec Tryz.prog (tab (n+2)) 0 157 (livesOf 65) big eli_C11) (livesOf 65 (outOf 11)) (eli_h11 a0 a1 a2 out_11 i_8 i_11) (.exit 4) (eli_o11b a0 a1 a2 out_11 i_8):=by
 apply Leave_m
 simp+decide [eli_h11,loopsOf, Tryz.f65,eli_o11b,eli_C8,eli_C11,C1]
theorem eli_r8_1(C1:(i_8:Int)<(a0.length:Int))(L2:loopG Tryz.prog (tab (n+2)) 0 157 (livesOf 65) 11 eli_C11 (eli_h11 a0 a1 a2 out_8 i_8 0)=some (.exit 4,eli_o11b a0 a1 a2 out_11 i_8))(W3:InI ((i_8:Int)+1)):
  Cont 0 (exec Tryz.prog (tab (n+2)) 0 157 (livesOf 65) big eli_C8) (livesOf 65 8) (eli_h8 a0 a1 a2 out_8 i_8) (eli_h8 a0 a1 a2 out_11 (i_8+1)):=by
 have W3_:IntKind.i64.wrap ((i_8:Int)+1)=(i_8:Int)+1:=wr64 W3.1 W3.2
 apply Cont_m
 simp+decide [eli_h8,loopsOf, Tryz.f65,eli_C8,C1]
 rw [loopX_G (C':=eli_C11) (e:=(eli_h11 a0 a1 a2 out_8 i_8 0)) ?_ ?_,L2]
 rotate_left
 ·kernel_rfl
 ·simp+decide [eli_h11, Tryz.f65]
 simp+decide [eli_o11b, Tryz.f65,W3_]
theorem eli_x8_1(C1:(i_8:Int)<(a0.length:Int))(L2:loopG Tryz.prog (tab (n+2)) 0 157 (livesOf 65) 11 eli_C11 (eli_h11 a0 a1 a2 out_8 i_8 0)=some (.ret,eli_o11a a0 a1 a2 out_11 i_8)):
  Leave 0 (exec Tryz.prog (tab (n+2)) 0 157 (livesOf 65) big eli_C8) (livesOf 65 (outOf 8)) (eli_h8 a0 a1 a2 out_8 i_8) (.ret) (eli_o8a out_11):=by
 apply Leave_m
 simp+decide [eli_h8,loopsOf, Tryz.f65,eli_o8a,eli_C8,C1]
 rw [loopX_G (C':=eli_C11) (e:=(eli_h11 a0 a1 a2 out_8 i_8 0)) ?_ ?_,L2]
 rotate_left
 ·kernel_rfl
 ·simp+decide [eli_h11, Tryz.f65]
 simp+decide [eli_o11a, Tryz.f65]
theorem eli_x8_2(C1:¬(i_8:Int)<(a0.length:Int)):
  Leave 0 (exec Tryz.prog (tab (n+2)) 0 157 (livesOf 65) big eli_C8) (livesOf 65 (outOf 8)) (eli_h8 a0 a1 a2 out_8 i_8) (.exit 2) (eli_o8b out_8):=by
 apply Leave_m
 simp+decide [eli_h8,loopsOf, Tryz.f65,eli_o8b,eli_C8,C1]
section
variable(L1:loopG Tryz.prog (tab (n+2)) 0 157 (livesOf 65) 3 eli_C3 (eli_h3 a0 a1 a2 [] 0)=some (.exit 0,eli_o3a a0 a1 a2 out_3))
include L1
theorem eli_f1(L2:loopG Tryz.prog (tab (n+2)) 0 157 (livesOf 65) 8 eli_C8 (eli_h8 a0 a1 a2 out_3 0)=some (.ret,eli_o8a out_11)):
  run (n+2) 65 [.sl 2 (a0.map rowC),.lit (.int .i64 a1),.lit (.int .i64 a2)]=some (.tup [.sl 2 [],.lit (.bool false)]):=by
 unfold run fnP
 simp+decide [Tryz.f65]
 rw [loopX_G (C':=eli_C3) (e:=(eli_h3 a0 a1 a2 [] 0)) ?_ ?_,L1]
 rotate_left
 ·kernel_rfl
 ·simp+decide [eli_h3]
 simp+decide [eli_o3a]
 rw [loopX_G (C':=eli_C8) (e:=(eli_h8 a0 a1 a2 out_3 0)) ?_ ?_,L2]
 rotate_left
 ·kernel_rfl
 ·simp+decide [eli_h8]
 simp+decide [eli_o8a]
theorem eli_f2(L2:loopG Tryz.prog (tab (n+2)) 0 157 (livesOf 65) 8 eli_C8 (eli_h8 a0 a1 a2 out_3 0)=some (.exit 2,eli_o8b out_8)):
  run (n+2) 65 [.sl 2 (a0.map rowC),.lit (.int .i64 a1),.lit (.int .i64 a2)]=some (.tup [.sl 2 (out_8.map rowC),.lit (.bool true)]):=by
 unfold run fnP
 simp+decide [Tryz.f65]
 rw [loopX_G (C':=eli_C3) (e:=(eli_h3 a0 a1 a2 [] 0)) ?_ ?_,L1]
 rotate_left
 ·kernel_rfl
 ·simp+decide [eli_h3]
 simp+decide [eli_o3a]
 rw [loopX_G (C':=eli_C8) (e:=(eli_h8 a0 a1 a2 out_3 0)) ?_ ?_,L2]
 rotate_left
 ·kernel_rfl
 ·simp+decide [eli_h8]
 simp+decide [eli_o8b]
end
end
noncomputable def en27_C4:Code:=(loopsOf (bodyOf Tryz.f66)).getD 0 .skip
def en27_h4(a0:List Trow)(a1:Int)(d_4:Bool)(d2_4:Bool)(i_4:Nat)(s_4:Rat)(s2_4:Rat):St:=
 ⟨[(0,.sl 2 (a0.map rowC)),(1,.lit (.int .i64 a1)),(5,.ptr 0 0),(6,.lit (.bool d_4)),(7,.lit (.bool d2_4)),(8,.ptr 1 0),(9,.ptr 2 0),(10,.lit (.int .i64 (i_4:Int)))],
  [(0,some (.box 26 [.lit (.bool false),.nl 1,.nl 1] false)),
   (1,some (.box 26 [.lit (.bool (rawQ s_4).s),natA (rawQ s_4).l1,natA (rawQ s_4).l2] false)),
   (2,some (.box 26 [.lit (.bool (rawQ s2_4).s),natA (rawQ s2_4).l1,natA (rawQ s2_4).l2] false))],3⟩
def en27_o4a(d_4:Bool)(d2_4:Bool)(s_4:Rat)(s2_4:Rat):St:=
 ⟨[(4,.lit (.int .i64 2)),(5,.ptr 0 0),(6,.lit (.bool d_4)),(7,.lit (.bool d2_4)),(8,.ptr 1 0),(9,.ptr 2 0)],
  [(0,some (.box 26 [.lit (.bool false),.nl 1,.nl 1] false)),
   (1,some (.box 26 [.lit (.bool (rawQ s_4).s),natA (rawQ s_4).l1,natA (rawQ s_4).l2] false)),
   (2,some (.box 26 [.lit (.bool (rawQ s2_4).s),natA (rawQ s2_4).l1,natA (rawQ s2_4).l2] false))],3⟩
def en27_o4b(d_4:Bool)(d2_4:Bool)(s_4:Rat)(s2_4:Rat):St:=
 ⟨[(4,.any),(5,.ptr 0 0),(6,.lit (.bool d_4)),(7,.lit (.bool d2_4)),(8,.ptr 1 0),(9,.ptr 2 0)],
  [(0,some (.box 26 [.lit (.bool false),.nl 1,.nl 1] false)),
   (1,some (.box 26 [.lit (.bool (rawQ s_4).s),natA (rawQ s_4).l1,natA (rawQ s_4).l2] false)),
   (2,some (.box 26 [.lit (.bool (rawQ s2_4).s),natA (rawQ s2_4).l1,natA (rawQ s2_4).l2] false))],3⟩
section
variable {x9 : Int} {a0 : List Trow} {s_4 : Rat} {s2_4 : Rat} {a1 : Int} {d2_4 : Bool} {i_4 : Nat} {x7 : Trow} {d_4 : Bool} {x8 : Int} {n : Nat}
section
variable(C1:(i_4:Int)<(a0.length:Int))(E2:a0[i_4]?=some x7)(E3:x7.c[a1.toNat]?=some x8)(Z3:0≤a1)(W4:InI (a1+1))(E5:x7.c[(a1+1).toNat]?=some x9)(Z5:0≤a1+1)
include C1 E2 E3 Z3 W4 E5 Z5
theorem en27_r4_1(C6:x8=0)(C7:¬x9<0)(W8:InI ((i_4:Int)+1)):
  Cont 0 (exec Tryz.prog (tab n) 0 85 (livesOf 66) big en27_C4) (livesOf 66 4) (en27_h4 a0 a1 d_4 d2_4 i_4 s_4 s2_4) (en27_h4 a0 a1 d_4 d2_4 (i_4+1) s_4 s2_4):=by
 have C1_:i_4<a0.length:=by omega
 obtain ⟨EL2,EG2⟩:=List.getElem?_eq_some_iff.1 E2
 obtain ⟨EL3,EG3⟩:=List.getElem?_eq_some_iff.1 E3
 have W4_:IntKind.i64.wrap (a1+1)=a1+1:=wr64 W4.1 W4.2
 obtain ⟨EL5,EG5⟩:=List.getElem?_eq_some_iff.1 E5
 have C6_:(x8==0)=true:=by rw [C6];simp
 have W8_:IntKind.i64.wrap ((i_4:Int)+1)=(i_4:Int)+1:=wr64 W8.1 W8.2
 apply Cont_m
 simp+decide [en27_h4,loopsOf, Tryz.f66,en27_C4,natA,C1,C1_,EG2,EL3,EG3,Z3,W4_,EL5,EG5,Z5,C6_,C7,W8_]
section
variable(C6:¬x8=0)(W7:InI ((-x9)))(W8:InI (-x9))(Y8:InI x8)
include C6 W7 W8 Y8
theorem en27_r4_2(C9:0<x8)(C10:d_4=false)(W11:InI ((i_4:Int)+1)):
  Cont 0 (exec Tryz.prog (tab n) 0 85 (livesOf 66) big en27_C4) (livesOf 66 4) (en27_h4 a0 a1 d_4 d2_4 i_4 s_4 s2_4) (en27_h4 a0 a1 true d2_4 (i_4+1) (fracQ (-x9) x8) s2_4):=by
 have C1_:i_4<a0.length:=by omega
 obtain ⟨EL2,EG2⟩:=List.getElem?_eq_some_iff.1 E2
 obtain ⟨EL3,EG3⟩:=List.getElem?_eq_some_iff.1 E3
 have W4_:IntKind.i64.wrap (a1+1)=a1+1:=wr64 W4.1 W4.2
 obtain ⟨EL5,EG5⟩:=List.getElem?_eq_some_iff.1 E5
 have C6_:(x8==0)=false:=by simpa using C6
 have W7_:IntKind.i64.wrap ((-x9))=(-x9):=wr64 W7.1 W7.2
 have K8:=r_frac (x:=(-x9)) (y:=x8) W8 Y8 (by omega)
 have W11_:IntKind.i64.wrap ((i_4:Int)+1)=(i_4:Int)+1:=wr64 W11.1 W11.2
 try simp only [natA] at K8
 apply Cont_m
 simp+decide [en27_h4,loopsOf, Tryz.f66,en27_C4,natA,C1,C1_,EG2,EL3,EG3,Z3,W4_,EL5,EG5,Z5,C6_,W7_,K8,C9,C10,W11_]
theorem en27_r4_3(C9:0<x8)(C10:d_4=true)(B11a:H (fracQ (-x9) x8)≤17179869184)(B11b:H s_4≤17179869184)(C12:0<sgR ((fracQ (-x9) x8)-s_4))(W13:InI ((i_4:Int)+1)):
  Cont 0 (exec Tryz.prog (tab n) 0 85 (livesOf 66) big en27_C4) (livesOf 66 4) (en27_h4 a0 a1 d_4 d2_4 i_4 s_4 s2_4) (en27_h4 a0 a1 true d2_4 (i_4+1) (fracQ (-x9) x8) s2_4):=by
 have C1_:i_4<a0.length:=by omega
 obtain ⟨EL2,EG2⟩:=List.getElem?_eq_some_iff.1 E2
 obtain ⟨EL3,EG3⟩:=List.getElem?_eq_some_iff.1 E3
 have W4_:IntKind.i64.wrap (a1+1)=a1+1:=wr64 W4.1 W4.2
 obtain ⟨EL5,EG5⟩:=List.getElem?_eq_some_iff.1 E5
 have C6_:(x8==0)=false:=by simpa using C6
 have W7_:IntKind.i64.wrap ((-x9))=(-x9):=wr64 W7.1 W7.2
 have K8:=r_frac (x:=(-x9)) (y:=x8) W8 Y8 (by omega)
 have K11:=r_cmp (p:=fracQ (-x9) x8) (q:=s_4) B11a B11b
 have W13_:IntKind.i64.wrap ((i_4:Int)+1)=(i_4:Int)+1:=wr64 W13.1 W13.2
 try simp only [natA] at K8
 try simp only [natA] at K11
 apply Cont_m
 simp+decide [en27_h4,loopsOf, Tryz.f66,en27_C4,natA,C1,C1_,EG2,EL3,EG3,Z3,W4_,EL5,EG5,Z5,C6_,W7_,K8,C9,C10,K11,C12,W13_]
theorem en27_r4_4(C9:0<x8)(C10:d_4=true)(B11a:H (fracQ (-x9) x8)≤17179869184)(B11b:H s_4≤17179869184)(C12:¬0<sgR ((fracQ (-x9) x8)-s_4))(W13:InI ((i_4:Int)+1)):
  Cont 0 (exec Tryz.prog (tab n) 0 85 (livesOf 66) big en27_C4) (livesOf 66 4) (en27_h4 a0 a1 d_4 d2_4 i_4 s_4 s2_4) (en27_h4 a0 a1 true d2_4 (i_4+1) s_4 s2_4):=by
 have C1_:i_4<a0.length:=by omega
 obtain ⟨EL2,EG2⟩:=List.getElem?_eq_some_iff.1 E2
 obtain ⟨EL3,EG3⟩:=List.getElem?_eq_some_iff.1 E3
 have W4_:IntKind.i64.wrap (a1+1)=a1+1:=wr64 W4.1 W4.2
 obtain ⟨EL5,EG5⟩:=List.getElem?_eq_some_iff.1 E5
 have C6_:(x8==0)=false:=by simpa using C6
 have W7_:IntKind.i64.wrap ((-x9))=(-x9):=wr64 W7.1 W7.2
 have K8:=r_frac (x:=(-x9)) (y:=x8) W8 Y8 (by omega)
 have K11:=r_cmp (p:=fracQ (-x9) x8) (q:=s_4) B11a B11b
 have W13_:IntKind.i64.wrap ((i_4:Int)+1)=(i_4:Int)+1:=wr64 W13.1 W13.2
 try simp only [natA] at K8
 try simp only [natA] at K11
 apply Cont_m
 simp+decide [en27_h4,loopsOf, Tryz.f66,en27_C4,natA,C1,C1_,EG2,EL3,EG3,Z3,W4_,EL5,EG5,Z5,C6_,W7_,K8,C9,C10,K11,C12,W13_]
theorem en27_r4_5(C9:¬0<x8)(C10:d2_4=false)(W11:InI ((i_4:Int)+1)):
  Cont 0 (exec Tryz.prog (tab n) 0 85 (livesOf 66) big en27_C4) (livesOf 66 4) (en27_h4 a0 a1 d_4 d2_4 i_4 s_4 s2_4) (en27_h4 a0 a1 d_4 true (i_4+1) s_4 (fracQ (-x9) x8)):=by
 have C1_:i_4<a0.length:=by omega
 obtain ⟨EL2,EG2⟩:=List.getElem?_eq_some_iff.1 E2
 obtain ⟨EL3,EG3⟩:=List.getElem?_eq_some_iff.1 E3
 have W4_:IntKind.i64.wrap (a1+1)=a1+1:=wr64 W4.1 W4.2
 obtain ⟨EL5,EG5⟩:=List.getElem?_eq_some_iff.1 E5
 have C6_:(x8==0)=false:=by simpa using C6
 have W7_:IntKind.i64.wrap ((-x9))=(-x9):=wr64 W7.1 W7.2
 have K8:=r_frac (x:=(-x9)) (y:=x8) W8 Y8 (by omega)
 have W11_:IntKind.i64.wrap ((i_4:Int)+1)=(i_4:Int)+1:=wr64 W11.1 W11.2
 try simp only [natA] at K8
 apply Cont_m
 simp+decide [en27_h4,loopsOf, Tryz.f66,en27_C4,natA,C1,C1_,EG2,EL3,EG3,Z3,W4_,EL5,EG5,Z5,C6_,W7_,K8,C9,C10,W11_]
theorem en27_r4_6(C9:¬0<x8)(C10:d2_4=true)(B11a:H (fracQ (-x9) x8)≤17179869184)(B11b:H s2_4≤17179869184)(C12:sgR ((fracQ (-x9) x8)-s2_4)<0)(W13:InI ((i_4:Int)+1)):
  Cont 0 (exec Tryz.prog (tab n) 0 85 (livesOf 66) big en27_C4) (livesOf 66 4) (en27_h4 a0 a1 d_4 d2_4 i_4 s_4 s2_4) (en27_h4 a0 a1 d_4 true (i_4+1) s_4 (fracQ (-x9) x8)):=by
 have C1_:i_4<a0.length:=by omega
 obtain ⟨EL2,EG2⟩:=List.getElem?_eq_some_iff.1 E2
 obtain ⟨EL3,EG3⟩:=List.getElem?_eq_some_iff.1 E3
 have W4_:IntKind.i64.wrap (a1+1)=a1+1:=wr64 W4.1 W4.2
 obtain ⟨EL5,EG5⟩:=List.getElem?_eq_some_iff.1 E5
 have C6_:(x8==0)=false:=by simpa using C6
 have W7_:IntKind.i64.wrap ((-x9))=(-x9):=wr64 W7.1 W7.2
 have K8:=r_frac (x:=(-x9)) (y:=x8) W8 Y8 (by omega)
 have K11:=r_cmp (p:=fracQ (-x9) x8) (q:=s2_4) B11a B11b
 have W13_:IntKind.i64.wrap ((i_4:Int)+1)=(i_4:Int)+1:=wr64 W13.1 W13.2
 try simp only [natA] at K8
 try simp only [natA] at K11
 apply Cont_m
 simp+decide [en27_h4,loopsOf, Tryz.f66,en27_C4,natA,C1,C1_,EG2,EL3,EG3,Z3,W4_,EL5,EG5,Z5,C6_,W7_,K8,C9,C10,K11,C12,W13_]
theorem en27_r4_7(C9:¬0<x8)(C10:d2_4=true)(B11a:H (fracQ (-x9) x8)≤17179869184)(B11b:H s2_4≤17179869184)(C12:¬sgR ((fracQ (-x9) x8)-s2_4)<0)(W13:InI ((i_4:Int)+1)):
  Cont 0 (exec Tryz.prog (tab n) 0 85 (livesOf 66) big en27_C4) (livesOf 66 4) (en27_h4 a0 a1 d_4 d2_4 i_4 s_4 s2_4) (en27_h4 a0 a1 d_4 true (i_4+1) s_4 s2_4):=by
 have C1_:i_4<a0.length:=by omega
 obtain ⟨EL2,EG2⟩:=List.getElem?_eq_some_iff.1 E2
 obtain ⟨EL3,EG3⟩:=List.getElem?_eq_some_iff.1 E3
 have W4_:IntKind.i64.wrap (a1+1)=a1+1:=wr64 W4.1 W4.2
 obtain ⟨EL5,EG5⟩:=List.getElem?_eq_some_iff.1 E5
 have C6_:(x8==0)=false:=by simpa using C6
 have W7_:IntKind.i64.wrap ((-x9))=(-x9):=wr64 W7.1 W7.2
 have K8:=r_frac (x:=(-x9)) (y:=x8) W8 Y8 (by omega)
 have K11:=r_cmp (p:=fracQ (-x9) x8) (q:=s2_4) B11a B11b
 have W13_:IntKind.i64.wrap ((i_4:Int)+1)=(i_4:Int)+1:=wr64 W13.1 W13.2
 try simp only [natA] at K8
 try simp only [natA] at K11
 apply Cont_m
 simp+decide [en27_h4,loopsOf, Tryz.f66,en27_C4,natA,C1,C1_,EG2,EL3,EG3,Z3,W4_,EL5,EG5,Z5,C6_,W7_,K8,C9,C10,K11,C12,W13_]
end
theorem en27_x4_1(C6:x8=0)(C7:x9<0):
  Leave 0 (exec Tryz.prog (tab n) 0 85 (livesOf 66) big en27_C4) (livesOf 66 (outOf 4)) (en27_h4 a0 a1 d_4 d2_4 i_4 s_4 s2_4) (.ret) (en27_o4a d_4 d2_4 s_4 s2_4):=by
 have C1_:i_4<a0.length:=by omega
 obtain ⟨EL2,EG2⟩:=List.getElem?_eq_some_iff.1 E2
 obtain ⟨EL3,EG3⟩:=List.getElem?_eq_some_iff.1 E3
 have W4_:IntKind.i64.wrap (a1+1)=a1+1:=wr64 W4.1 W4.2
 obtain ⟨EL5,EG5⟩:=List.getElem?_eq_some_iff.1 E5
 have C6_:(x8==0)=true:=by rw [C6];simp
 apply Leave_m
 simp+decide [en27_h4,loopsOf, Tryz.f66,en27_o4a,en27_C4,C1,C1_,EG2,EL3,EG3,Z3,W4_,EL5,EG5,Z5,C6_,C7]
end
theorem en27_x4_2(C1:¬(i_4:Int)<(a0.length:Int)):
  Leave 0 (exec Tryz.prog (tab n) 0 85 (livesOf 66) big en27_C4) (livesOf 66 (outOf 4)) (en27_h4 a0 a1 d_4 d2_4 i_4 s_4 s2_4) (.exit 0) (en27_o4b d_4 d2_4 s_4 s2_4):=by
 apply Leave_m
 simp+decide [en27_h4,loopsOf, Tryz.f66,en27_o4b,en27_C4,C1]
theorem en27_f1(L1:loopG Tryz.prog (tab n) 0 85 (livesOf 66) 4 en27_C4 (en27_h4 a0 a1 false false 0 0 0)=some (.ret,en27_o4a d_4 d2_4 s_4 s2_4)):
  run n 66 [.sl 2 (a0.map rowC),.lit (.int .i64 a1)]=some (.tup [.lit (.int .i64 2),.agg [.lit (.bool false),.sl 1 [],.sl 1 []]]):=by
 unfold run fnP
 simp+decide [Tryz.f66]
 rw [loopX_G (C':=en27_C4) (e:=(en27_h4 a0 a1 false false 0 0 0)) ?_ ?_,L1]
 rotate_left
 ·kernel_rfl
 ·simp+decide [en27_h4]
 simp+decide [en27_o4a]
section
variable(L1:loopG Tryz.prog (tab n) 0 85 (livesOf 66) 4 en27_C4 (en27_h4 a0 a1 false false 0 0 0)=some (.exit 0,en27_o4b d_4 d2_4 s_4 s2_4))
include L1
theorem en27_f2(C2:d_4=true)(C3:d2_4=true)(B4a:H s2_4≤17179869184)(B4b:H s_4≤17179869184)(C5:sgR (s2_4-s_4)<0):
  run n 66 [.sl 2 (a0.map rowC),.lit (.int .i64 a1)]=some (.tup [.lit (.int .i64 2),.agg [.lit (.bool false),.sl 1 [],.sl 1 []]]):=by
 have K4:=r_cmp (p:=s2_4) (q:=s_4) B4a B4b
 unfold run fnP
 simp+decide [Tryz.f66]
 rw [loopX_G (C':=en27_C4) (e:=(en27_h4 a0 a1 false false 0 0 0)) ?_ ?_,L1]
 rotate_left
 ·kernel_rfl
 ·simp+decide [en27_h4]
 simp+decide [en27_o4b,C2,C3,K4,C5]
theorem en27_f3(C2:d_4=true)(C3:d2_4=true)(B4a:H s2_4≤17179869184)(B4b:H s_4≤17179869184)(C5:¬sgR (s2_4-s_4)<0):
  run n 66 [.sl 2 (a0.map rowC),.lit (.int .i64 a1)]=some (.tup [.lit (.int .i64 1),ratV s_4]):=by
 have K4:=r_cmp (p:=s2_4) (q:=s_4) B4a B4b
 unfold run fnP
 simp+decide [Tryz.f66]
 rw [loopX_G (C':=en27_C4) (e:=(en27_h4 a0 a1 false false 0 0 0)) ?_ ?_,L1]
 rotate_left
 ·kernel_rfl
 ·simp+decide [en27_h4]
 simp+decide [en27_o4b,C2,C3,K4,C5]
theorem en27_f4(C2:d_4=true)(C3:d2_4=false):
  run n 66 [.sl 2 (a0.map rowC),.lit (.int .i64 a1)]=some (.tup [.lit (.int .i64 1),ratV s_4]):=by
 unfold run fnP
 simp+decide [Tryz.f66]
 rw [loopX_G (C':=en27_C4) (e:=(en27_h4 a0 a1 false false 0 0 0)) ?_ ?_,L1]
 rotate_left
 ·kernel_rfl
 ·simp+decide [en27_h4]
 simp+decide [en27_o4b,C2,C3]
theorem en27_f5(C2:d_4=false):
  run n 66 [.sl 2 (a0.map rowC),.lit (.int .i64 a1)]=some (.tup [.lit (.int .i64 3),.agg [.lit (.bool false),.sl 1 [],.sl 1 []]]):=by
 unfold run fnP
 simp+decide [Tryz.f66]
 rw [loopX_G (C':=en27_C4) (e:=(en27_h4 a0 a1 false false 0 0 0)) ?_ ?_,L1]
 rotate_left
 ·kernel_rfl
 ·simp+decide [en27_h4]
 simp+decide [en27_o4b,C2]
end
end
end
end Go.Proofs.YtdaonnnlgfhlaaaGreatDoor
