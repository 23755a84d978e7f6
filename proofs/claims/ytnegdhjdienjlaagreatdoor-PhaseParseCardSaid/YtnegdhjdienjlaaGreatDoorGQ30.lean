import Derived.Test.YtnegdhjdienjlaaGreatDoorGQ20
import Derived.Test.YtnegdhjdienjlaaGreatDoorGQ21
import Derived.Test.YtnegdhjdienjlaaGreatDoorGQ29
import Derived.Test.YtnegdhjdienjlaaGreatDoorGQ22
set_option linter.all false
set_option maxHeartbeats 6400000
set_option maxRecDepth 100000
namespace Go.Proofs.YtnegdhjdienjlaaGreatDoor
section
open Go.RowKit
section
variable {n : Nat} {a0 : TDecisionR}
theorem pun_f1(C1:a0.Kind=1):
  run n 70 [decisionRV a0]=some (.lit (.bool true)):=by
 have C1_:(a0.Kind==1)=true:=by rw [C1];simp
 have C1_n:(a0.Kind !=1)=false:=by rw [C1];simp
 unfold run fnP
 simp+decide [Tryz.f70,C1_,C1_n]
theorem pun_f2(C1:¬a0.Kind=1):
  run n 70 [decisionRV a0]=some (.lit (.bool (a0.Kind==2))):=by
 have C1_:(a0.Kind==1)=false:=by simpa using C1
 have C1_n:(a0.Kind !=1)=true:=by simpa using C1
 unfold run fnP
 simp+decide [Tryz.f70,C1_,C1_n]
end
section
variable {n : Nat} {a0 : Raw}
theorem pze_f1(C1:a0.s=false)(C2:(a0.l1.length:Int)=0):
  run n 76 [.agg [.lit (.bool a0.s),natA a0.l1,natA a0.l2]]=some (.lit (.bool (((a0.l2.length:Int)==0)))):=by
 have C2_:((a0.l1.length:Int)==0)=true:=by rw [C2];simp
 have C2_n:((a0.l1.length:Int) !=0)=false:=by rw [C2];simp
 have C2_l:¬0<(a0.l1.length:Int):=by omega
 unfold run fnP
 simp+decide [Tryz.f76,C1,C2_,C2_n,C2_l]
theorem pze_f2(C1:a0.s=false)(C2:¬(a0.l1.length:Int)=0):
  run n 76 [.agg [.lit (.bool a0.s),natA a0.l1,natA a0.l2]]=some (.lit (.bool false)):=by
 have C2_:((a0.l1.length:Int)==0)=false:=by simpa using C2
 have C2_n:((a0.l1.length:Int) !=0)=true:=by simpa using C2
 have C2_l:0<(a0.l1.length:Int):=by omega
 unfold run fnP
 simp+decide [Tryz.f76,C1,C2_,C2_n,C2_l]
theorem pze_f3(C1:a0.s=true):
  run n 76 [.agg [.lit (.bool a0.s),natA a0.l1,natA a0.l2]]=some (.lit (.bool false)):=by
 unfold run fnP
 simp+decide [Tryz.f76,C1]
end
section
variable {n : Nat} {a0 : TDecisionR} {r2 : Bool} {r : Bool}
theorem pva_f1(C1:a0.Index<0):
  run (n+1) 29 [decisionRV a0]=some (.lit (.bool false)):=by
 unfold run fnP
 simp+decide [Tryz.f29,C1]
section
variable(C1:¬a0.Index<0)(K2:run n 70 [decisionRV a0]=some (.lit (.bool r)))
include C1 K2
theorem pva_f2(C3:r=true)(C4:a0.Index<1024)(K5:run n 76 [.agg [.lit (.bool a0.At.s),natA a0.At.l1,natA a0.At.l2]]=some (.lit (.bool r2))):
  run (n+1) 29 [decisionRV a0]=some (.lit (.bool r2)):=by
 simp only [decisionRV] at K2
 unfold run fnP
 simp+decide [Tryz.f29,C1,K2,C3,C4,K5]
theorem pva_f3(C3:r=true)(C4:¬a0.Index<1024):
  run (n+1) 29 [decisionRV a0]=some (.lit (.bool false)):=by
 simp only [decisionRV] at K2
 unfold run fnP
 simp+decide [Tryz.f29,C1,K2,C3,C4]
theorem pva_f4(C3:r=false)(C4:a0.Kind=3)(C5:a0.Index<256)(B6a:RawB a0.At):
  run (n+1) 29 [decisionRV a0]=some (.lit (.bool (decide (RatV a0.At.s a0.At.l1 a0.At.l2)))):=by
 simp only [decisionRV] at K2
 have C4_:(a0.Kind==3)=true:=by rw [C4];simp
 have C4_n:(a0.Kind !=3)=false:=by rw [C4];simp
 have K6:=rr_valid B6a
 unfold run fnP
 simp+decide [Tryz.f29,C1,K2,C3,C4_,C4_n,C5,K6]
theorem pva_f5(C3:r=false)(C4:a0.Kind=3)(C5:¬a0.Index<256):
  run (n+1) 29 [decisionRV a0]=some (.lit (.bool false)):=by
 simp only [decisionRV] at K2
 have C4_:(a0.Kind==3)=true:=by rw [C4];simp
 have C4_n:(a0.Kind !=3)=false:=by rw [C4];simp
 unfold run fnP
 simp+decide [Tryz.f29,C1,K2,C3,C4_,C4_n,C5]
theorem pva_f6(C3:r=false)(C4:¬a0.Kind=3)(C5:a0.Kind=4)(C6:a0.Index<256)(B7a:RawB a0.At):
  run (n+1) 29 [decisionRV a0]=some (.lit (.bool (decide (RatV a0.At.s a0.At.l1 a0.At.l2)))):=by
 simp only [decisionRV] at K2
 have C4_:(a0.Kind==3)=false:=by simpa using C4
 have C4_n:(a0.Kind !=3)=true:=by simpa using C4
 have C5_:(a0.Kind==4)=true:=by rw [C5];simp
 have C5_n:(a0.Kind !=4)=false:=by rw [C5];simp
 have K7:=rr_valid B7a
 unfold run fnP
 simp+decide [Tryz.f29,C1,K2,C3,C4_,C4_n,C5_,C5_n,C6,K7]
theorem pva_f7(C3:r=false)(C4:¬a0.Kind=3)(C5:a0.Kind=4)(C6:¬a0.Index<256):
  run (n+1) 29 [decisionRV a0]=some (.lit (.bool false)):=by
 simp only [decisionRV] at K2
 have C4_:(a0.Kind==3)=false:=by simpa using C4
 have C4_n:(a0.Kind !=3)=true:=by simpa using C4
 have C5_:(a0.Kind==4)=true:=by rw [C5];simp
 have C5_n:(a0.Kind !=4)=false:=by rw [C5];simp
 unfold run fnP
 simp+decide [Tryz.f29,C1,K2,C3,C4_,C4_n,C5_,C5_n,C6]
theorem pva_f8(C3:r=false)(C4:¬a0.Kind=3)(C5:¬a0.Kind=4):
  run (n+1) 29 [decisionRV a0]=some (.lit (.bool false)):=by
 simp only [decisionRV] at K2
 have C4_:(a0.Kind==3)=false:=by simpa using C4
 have C4_n:(a0.Kind !=3)=true:=by simpa using C4
 have C5_:(a0.Kind==4)=false:=by simpa using C5
 have C5_n:(a0.Kind !=4)=true:=by simpa using C5
 unfold run fnP
 simp+decide [Tryz.f29,C1,K2,C3,C4_,C4_n,C5_,C5_n]
end
end
section
variable {n : Nat} {r : Bool} {a0 : TDecisionR} {cat : ByteArray} {cat2 : ByteArray} {r2 : ByteArray} {cat4 : ByteArray} {cat3 : ByteArray} {cat7 : ByteArray} {cat6 : ByteArray} {cat5 : ByteArray} {r3 : ByteArray} {cat8 : ByteArray} {cat9 : ByteArray} {cat10 : ByteArray} {r4 : ByteArray}
section
variable(K1:run (n+5) 29 [decisionRV a0]=some (.lit (.bool r)))
include K1
theorem ptx_f1(C2:r=false):
  run (n+6) 9 [decisionRV a0]=some (.lit (.string (⟨#[]⟩:ByteArray))):=by
 simp only [decisionRV] at K1
 unfold run fnP
 simp+decide [Tryz.f9,K1,C2]
section
variable(C2:r=true)(K3:(oItoa) [.lit (.int .i64 (a0.Index))]=some (.lit (.string r2)))
include C2 K3
theorem ptx_f2(C4:a0.Kind=1)(S5:(⟨#[117]⟩:ByteArray).size+r2.size≤9000000000000000000)(D5:cat=(⟨#[117]⟩:ByteArray)++r2)(S6:cat.size+(⟨#[32,111,110]⟩:ByteArray).size≤9000000000000000000)(D6:cat2=cat++(⟨#[32,111,110]⟩:ByteArray)):
  run (n+6) 9 [decisionRV a0]=some (.lit (.string cat2)):=by
 obtain ⟨ks0,hks0⟩:∃k:ByteArray,(⟨#[32,111,110]⟩:ByteArray)=k:=⟨_,rfl⟩
 rw [hks0] at S6 D6
 simp only [decisionRV] at K1
 have C4_:(a0.Kind==1)=true:=by rw [C4];simp
 have C4_n:(a0.Kind !=1)=false:=by rw [C4];simp
 have S5_r:=cat_r S5 D5
 have S5_q:=cat_q S5 D5
 have S6_r:=cat_r S6 D6
 have S6_q:=cat_q S6 D6
 unfold run fnP
 simp+decide [Tryz.f9,K1,C2,K3,C4_,C4_n,↓S5_r,S5_q,↓S6_r,S6_q,hks0]
theorem ptx_f3(C4:¬a0.Kind=1)(C5:a0.Kind=2)(S6:(⟨#[117]⟩:ByteArray).size+r2.size≤9000000000000000000)(D6:cat3=(⟨#[117]⟩:ByteArray)++r2)(S7:cat3.size+(⟨#[32,111,102,102]⟩:ByteArray).size≤9000000000000000000)(D7:cat4=cat3++(⟨#[32,111,102,102]⟩:ByteArray)):
  run (n+6) 9 [decisionRV a0]=some (.lit (.string cat4)):=by
 obtain ⟨ks0,hks0⟩:∃k:ByteArray,(⟨#[32,111,102,102]⟩:ByteArray)=k:=⟨_,rfl⟩
 rw [hks0] at S7 D7
 simp only [decisionRV] at K1
 have C4_:(a0.Kind==1)=false:=by simpa using C4
 have C4_n:(a0.Kind !=1)=true:=by simpa using C4
 have C5_:(a0.Kind==2)=true:=by rw [C5];simp
 have C5_n:(a0.Kind !=2)=false:=by rw [C5];simp
 have S6_r:=cat_r S6 D6
 have S6_q:=cat_q S6 D6
 have S7_r:=cat_r S7 D7
 have S7_q:=cat_q S7 D7
 unfold run fnP
 simp+decide [Tryz.f9,K1,C2,K3,C4_,C4_n,C5_,C5_n,↓S6_r,S6_q,↓S7_r,S7_q,hks0]
theorem ptx_f4(C4:¬a0.Kind=1)(C5:¬a0.Kind=2)(C6:a0.Kind=3)(S7:(⟨#[120]⟩:ByteArray).size+r2.size≤9000000000000000000)(D7:cat5=(⟨#[120]⟩:ByteArray)++r2)(S8:cat5.size+(⟨#[32,62,61,32]⟩:ByteArray).size≤9000000000000000000)(D8:cat6=cat5++(⟨#[32,62,61,32]⟩:ByteArray))(K9:(oDT) [.agg [.lit (.bool a0.At.s),natA a0.At.l1,natA a0.At.l2]]=some (.lit (.string r3)))(S10:cat6.size+r3.size≤9000000000000000000)(D10:cat7=cat6++r3):
  run (n+6) 9 [decisionRV a0]=some (.lit (.string cat7)):=by
 obtain ⟨ks0,hks0⟩:∃k:ByteArray,(⟨#[32,62,61,32]⟩:ByteArray)=k:=⟨_,rfl⟩
 rw [hks0] at S8 D8
 simp only [decisionRV] at K1
 have C4_:(a0.Kind==1)=false:=by simpa using C4
 have C4_n:(a0.Kind !=1)=true:=by simpa using C4
 have C5_:(a0.Kind==2)=false:=by simpa using C5
 have C5_n:(a0.Kind !=2)=true:=by simpa using C5
 have C6_:(a0.Kind==3)=true:=by rw [C6];simp
 have C6_n:(a0.Kind !=3)=false:=by rw [C6];simp
 have S7_r:=cat_r S7 D7
 have S7_q:=cat_q S7 D7
 have S8_r:=cat_r S8 D8
 have S8_q:=cat_q S8 D8
 have S10_r:=cat_r S10 D10
 have S10_q:=cat_q S10 D10
 unfold run fnP
 simp+decide [Tryz.f9,K1,C2,K3,C4_,C4_n,C5_,C5_n,C6_,C6_n,↓S7_r,S7_q,↓S8_r,S8_q,K9,↓S10_r,S10_q,hks0]
theorem ptx_f5(C4:¬a0.Kind=1)(C5:¬a0.Kind=2)(C6:¬a0.Kind=3)(S7:(⟨#[120]⟩:ByteArray).size+r2.size≤9000000000000000000)(D7:cat8=(⟨#[120]⟩:ByteArray)++r2)(S8:cat8.size+(⟨#[32,60,61,32]⟩:ByteArray).size≤9000000000000000000)(D8:cat9=cat8++(⟨#[32,60,61,32]⟩:ByteArray))(K9:(oDT) [.agg [.lit (.bool a0.At.s),natA a0.At.l1,natA a0.At.l2]]=some (.lit (.string r4)))(S10:cat9.size+r4.size≤9000000000000000000)(D10:cat10=cat9++r4):
  run (n+6) 9 [decisionRV a0]=some (.lit (.string cat10)):=by
 obtain ⟨ks0,hks0⟩:∃k:ByteArray,(⟨#[32,60,61,32]⟩:ByteArray)=k:=⟨_,rfl⟩
 rw [hks0] at S8 D8
 simp only [decisionRV] at K1
 have C4_:(a0.Kind==1)=false:=by simpa using C4
 have C4_n:(a0.Kind !=1)=true:=by simpa using C4
 have C5_:(a0.Kind==2)=false:=by simpa using C5
 have C5_n:(a0.Kind !=2)=true:=by simpa using C5
 have C6_:(a0.Kind==3)=false:=by simpa using C6
 have C6_n:(a0.Kind !=3)=true:=by simpa using C6
 have S7_r:=cat_r S7 D7
 have S7_q:=cat_q S7 D7
 have S8_r:=cat_r S8 D8
 have S8_q:=cat_q S8 D8
 have S10_r:=cat_r S10 D10
 have S10_q:=cat_q S10 D10
 unfold run fnP
 simp+decide [Tryz.f9,K1,C2,K3,C4_,C4_n,C5_,C5_n,C6_,C6_n,↓S7_r,S7_q,↓S8_r,S8_q,K9,↓S10_r,S10_q,hks0]
end
end
end
end
section
open Go.RowKit
section
variable {n : Nat} {a0 : TDecisionR}
theorem fva4_f1(C1:a0.Kind=1)(C2:0≤a0.Index)(C3:a0.Index<1024)(B4a:RawB a0.At):
  run n 12 [decisionRV a0]=some (.lit (.bool (decide (a0.At=rawQ 0)))):=by
 have C1_:(a0.Kind==1)=true:=by rw [C1];simp
 have C1_n:(a0.Kind !=1)=false:=by rw [C1];simp
 have K4:=rr_same0 B4a
 unfold run fnP
 simp+decide [Tryz.f12,C1_,C1_n,C2,C3,K4]
theorem fva4_f2(C1:a0.Kind=1)(C2:0≤a0.Index)(C3:¬a0.Index<1024):
  run n 12 [decisionRV a0]=some (.lit (.bool false)):=by
 have C1_:(a0.Kind==1)=true:=by rw [C1];simp
 have C1_n:(a0.Kind !=1)=false:=by rw [C1];simp
 unfold run fnP
 simp+decide [Tryz.f12,C1_,C1_n,C2,C3]
theorem fva4_f3(C1:a0.Kind=1)(C2:¬0≤a0.Index):
  run n 12 [decisionRV a0]=some (.lit (.bool false)):=by
 have C1_:(a0.Kind==1)=true:=by rw [C1];simp
 have C1_n:(a0.Kind !=1)=false:=by rw [C1];simp
 unfold run fnP
 simp+decide [Tryz.f12,C1_,C1_n,C2]
section
variable(C1:¬a0.Kind=1)
include C1
theorem fva4_f4(C2:a0.Kind=2)(C3:0≤a0.Index)(C4:a0.Index<1024)(B5a:RawB a0.At):
  run n 12 [decisionRV a0]=some (.lit (.bool (decide (a0.At=rawQ 0)))):=by
 have C1_:(a0.Kind==1)=false:=by simpa using C1
 have C1_n:(a0.Kind !=1)=true:=by simpa using C1
 have C2_:(a0.Kind==2)=true:=by rw [C2];simp
 have C2_n:(a0.Kind !=2)=false:=by rw [C2];simp
 have K5:=rr_same0 B5a
 unfold run fnP
 simp+decide [Tryz.f12,C1_,C1_n,C2_,C2_n,C3,C4,K5]
theorem fva4_f5(C2:a0.Kind=2)(C3:0≤a0.Index)(C4:¬a0.Index<1024):
  run n 12 [decisionRV a0]=some (.lit (.bool false)):=by
 have C1_:(a0.Kind==1)=false:=by simpa using C1
 have C1_n:(a0.Kind !=1)=true:=by simpa using C1
 have C2_:(a0.Kind==2)=true:=by rw [C2];simp
 have C2_n:(a0.Kind !=2)=false:=by rw [C2];simp
 unfold run fnP
 simp+decide [Tryz.f12,C1_,C1_n,C2_,C2_n,C3,C4]
theorem fva4_f6(C2:a0.Kind=2)(C3:¬0≤a0.Index):
  run n 12 [decisionRV a0]=some (.lit (.bool false)):=by
 have C1_:(a0.Kind==1)=false:=by simpa using C1
 have C1_n:(a0.Kind !=1)=true:=by simpa using C1
 have C2_:(a0.Kind==2)=true:=by rw [C2];simp
 have C2_n:(a0.Kind !=2)=false:=by rw [C2];simp
 unfold run fnP
 simp+decide [Tryz.f12,C1_,C1_n,C2_,C2_n,C3]
section
variable(C2:¬a0.Kind=2)
include C2
theorem fva4_f7(C3:a0.Kind=3)(C4:0≤a0.Index)(C5:a0.Index<256)(B6a:RawB a0.At):
  run n 12 [decisionRV a0]=some (.lit (.bool (decide (RatV a0.At.s a0.At.l1 a0.At.l2)))):=by
 have C1_:(a0.Kind==1)=false:=by simpa using C1
 have C1_n:(a0.Kind !=1)=true:=by simpa using C1
 have C2_:(a0.Kind==2)=false:=by simpa using C2
 have C2_n:(a0.Kind !=2)=true:=by simpa using C2
 have C3_:(a0.Kind==3)=true:=by rw [C3];simp
 have C3_n:(a0.Kind !=3)=false:=by rw [C3];simp
 have K6:=rr_valid B6a
 unfold run fnP
 simp+decide [Tryz.f12,C1_,C1_n,C2_,C2_n,C3_,C3_n,C4,C5,K6]
theorem fva4_f8(C3:a0.Kind=3)(C4:0≤a0.Index)(C5:¬a0.Index<256):
  run n 12 [decisionRV a0]=some (.lit (.bool false)):=by
 have C1_:(a0.Kind==1)=false:=by simpa using C1
 have C1_n:(a0.Kind !=1)=true:=by simpa using C1
 have C2_:(a0.Kind==2)=false:=by simpa using C2
 have C2_n:(a0.Kind !=2)=true:=by simpa using C2
 have C3_:(a0.Kind==3)=true:=by rw [C3];simp
 have C3_n:(a0.Kind !=3)=false:=by rw [C3];simp
 unfold run fnP
 simp+decide [Tryz.f12,C1_,C1_n,C2_,C2_n,C3_,C3_n,C4,C5]
theorem fva4_f9(C3:a0.Kind=3)(C4:¬0≤a0.Index):
  run n 12 [decisionRV a0]=some (.lit (.bool false)):=by
 have C1_:(a0.Kind==1)=false:=by simpa using C1
 have C1_n:(a0.Kind !=1)=true:=by simpa using C1
 have C2_:(a0.Kind==2)=false:=by simpa using C2
 have C2_n:(a0.Kind !=2)=true:=by simpa using C2
 have C3_:(a0.Kind==3)=true:=by rw [C3];simp
 have C3_n:(a0.Kind !=3)=false:=by rw [C3];simp
 unfold run fnP
 simp+decide [Tryz.f12,C1_,C1_n,C2_,C2_n,C3_,C3_n,C4]
theorem fva4_f10(C3:¬a0.Kind=3)(C4:a0.Kind=4)(C5:0≤a0.Index)(C6:a0.Index<256)(B7a:RawB a0.At):
  run n 12 [decisionRV a0]=some (.lit (.bool (decide (RatV a0.At.s a0.At.l1 a0.At.l2)))):=by
 have C1_:(a0.Kind==1)=false:=by simpa using C1
 have C1_n:(a0.Kind !=1)=true:=by simpa using C1
 have C2_:(a0.Kind==2)=false:=by simpa using C2
 have C2_n:(a0.Kind !=2)=true:=by simpa using C2
 have C3_:(a0.Kind==3)=false:=by simpa using C3
 have C3_n:(a0.Kind !=3)=true:=by simpa using C3
 have C4_:(a0.Kind==4)=true:=by rw [C4];simp
 have C4_n:(a0.Kind !=4)=false:=by rw [C4];simp
 have K7:=rr_valid B7a
 unfold run fnP
 simp+decide [Tryz.f12,C1_,C1_n,C2_,C2_n,C3_,C3_n,C4_,C4_n,C5,C6,K7]
theorem fva4_f11(C3:¬a0.Kind=3)(C4:a0.Kind=4)(C5:0≤a0.Index)(C6:¬a0.Index<256):
  run n 12 [decisionRV a0]=some (.lit (.bool false)):=by
 have C1_:(a0.Kind==1)=false:=by simpa using C1
 have C1_n:(a0.Kind !=1)=true:=by simpa using C1
 have C2_:(a0.Kind==2)=false:=by simpa using C2
 have C2_n:(a0.Kind !=2)=true:=by simpa using C2
 have C3_:(a0.Kind==3)=false:=by simpa using C3
 have C3_n:(a0.Kind !=3)=true:=by simpa using C3
 have C4_:(a0.Kind==4)=true:=by rw [C4];simp
 have C4_n:(a0.Kind !=4)=false:=by rw [C4];simp
 unfold run fnP
 simp+decide [Tryz.f12,C1_,C1_n,C2_,C2_n,C3_,C3_n,C4_,C4_n,C5,C6]
theorem fva4_f12(C3:¬a0.Kind=3)(C4:a0.Kind=4)(C5:¬0≤a0.Index):
  run n 12 [decisionRV a0]=some (.lit (.bool false)):=by
 have C1_:(a0.Kind==1)=false:=by simpa using C1
 have C1_n:(a0.Kind !=1)=true:=by simpa using C1
 have C2_:(a0.Kind==2)=false:=by simpa using C2
 have C2_n:(a0.Kind !=2)=true:=by simpa using C2
 have C3_:(a0.Kind==3)=false:=by simpa using C3
 have C3_n:(a0.Kind !=3)=true:=by simpa using C3
 have C4_:(a0.Kind==4)=true:=by rw [C4];simp
 have C4_n:(a0.Kind !=4)=false:=by rw [C4];simp
 unfold run fnP
 simp+decide [Tryz.f12,C1_,C1_n,C2_,C2_n,C3_,C3_n,C4_,C4_n,C5]
theorem fva4_f13(C3:¬a0.Kind=3)(C4:¬a0.Kind=4):
  run n 12 [decisionRV a0]=some (.lit (.bool false)):=by
 have C1_:(a0.Kind==1)=false:=by simpa using C1
 have C1_n:(a0.Kind !=1)=true:=by simpa using C1
 have C2_:(a0.Kind==2)=false:=by simpa using C2
 have C2_n:(a0.Kind !=2)=true:=by simpa using C2
 have C3_:(a0.Kind==3)=false:=by simpa using C3
 have C3_n:(a0.Kind !=3)=true:=by simpa using C3
 have C4_:(a0.Kind==4)=false:=by simpa using C4
 have C4_n:(a0.Kind !=4)=true:=by simpa using C4
 unfold run fnP
 simp+decide [Tryz.f12,C1_,C1_n,C2_,C2_n,C3_,C3_n,C4_,C4_n]
end
end
end
section
variable {r : Bool} {a0 : TDecisionR} {cat : ByteArray} {n : Nat} {cat2 : ByteArray} {r2 : ByteArray} {cat4 : ByteArray} {cat3 : ByteArray} {r3 : ByteArray} {cat7 : ByteArray} {cat6 : ByteArray} {r4 : ByteArray} {cat5 : ByteArray} {r5 : ByteArray} {cat8 : ByteArray} {cat9 : ByteArray} {r6 : ByteArray} {cat10 : ByteArray} {r7 : ByteArray}
section
variable(K1:run (n+41) 12 [decisionRV a0]=some (.lit (.bool r)))(C2:r=true)
include K1 C2
theorem ftx4_f2(C3:a0.Kind=1)(K4:run (n+41) 32 [.lit (.int .i64 (a0.Index))]=some (.lit (.string r2)))(S5:(⟨#[117]⟩:ByteArray).size+r2.size≤9000000000000000000)(D5:cat=(⟨#[117]⟩:ByteArray)++r2)(S6:cat.size+(⟨#[32,111,110]⟩:ByteArray).size≤9000000000000000000)(D6:cat2=cat++(⟨#[32,111,110]⟩:ByteArray)):
  run (n+42) 10 [decisionRV a0]=some (.lit (.string cat2)):=by
 obtain ⟨ks0,hks0⟩:∃k:ByteArray,(⟨#[32,111,110]⟩:ByteArray)=k:=⟨_,rfl⟩
 rw [hks0] at S6 D6
 simp only [decisionRV] at K1
 have C3_:(a0.Kind==1)=true:=by rw [C3];simp
 have C3_n:(a0.Kind !=1)=false:=by rw [C3];simp
 have S5_r:=cat_r S5 D5
 have S5_q:=cat_q S5 D5
 have S6_r:=cat_r S6 D6
 have S6_q:=cat_q S6 D6
 unfold run fnP
 simp+decide [Tryz.f10,K1,C2,C3_,C3_n,K4,↓S5_r,S5_q,↓S6_r,S6_q,hks0]
theorem ftx4_f3(C3:¬a0.Kind=1)(C4:a0.Kind=2)(K5:run (n+41) 32 [.lit (.int .i64 (a0.Index))]=some (.lit (.string r3)))(S6:(⟨#[117]⟩:ByteArray).size+r3.size≤9000000000000000000)(D6:cat3=(⟨#[117]⟩:ByteArray)++r3)(S7:cat3.size+(⟨#[32,111,102,102]⟩:ByteArray).size≤9000000000000000000)(D7:cat4=cat3++(⟨#[32,111,102,102]⟩:ByteArray)):
  run (n+42) 10 [decisionRV a0]=some (.lit (.string cat4)):=by
 obtain ⟨ks0,hks0⟩:∃k:ByteArray,(⟨#[32,111,102,102]⟩:ByteArray)=k:=⟨_,rfl⟩
 rw [hks0] at S7 D7
 simp only [decisionRV] at K1
 have C3_:(a0.Kind==1)=false:=by simpa using C3
 have C3_n:(a0.Kind !=1)=true:=by simpa using C3
 have C4_:(a0.Kind==2)=true:=by rw [C4];simp
 have C4_n:(a0.Kind !=2)=false:=by rw [C4];simp
 have S6_r:=cat_r S6 D6
 have S6_q:=cat_q S6 D6
 have S7_r:=cat_r S7 D7
 have S7_q:=cat_q S7 D7
 unfold run fnP
 simp+decide [Tryz.f10,K1,C2,C3_,C3_n,C4_,C4_n,K5,↓S6_r,S6_q,↓S7_r,S7_q,hks0]
theorem ftx4_f4(C3:¬a0.Kind=1)(C4:¬a0.Kind=2)(C5:a0.Kind=3)(K6:run (n+41) 32 [.lit (.int .i64 (a0.Index))]=some (.lit (.string r4)))(S7:(⟨#[120]⟩:ByteArray).size+r4.size≤9000000000000000000)(D7:cat5=(⟨#[120]⟩:ByteArray)++r4)(S8:cat5.size+(⟨#[32,62,61,32]⟩:ByteArray).size≤9000000000000000000)(D8:cat6=cat5++(⟨#[32,62,61,32]⟩:ByteArray))(K9:run (n+41) 33 [.agg [.lit (.bool a0.At.s),natA a0.At.l1,natA a0.At.l2]]=some (.lit (.string r5)))(S10:cat6.size+r5.size≤9000000000000000000)(D10:cat7=cat6++r5):
  run (n+42) 10 [decisionRV a0]=some (.lit (.string cat7)):=by
 obtain ⟨ks0,hks0⟩:∃k:ByteArray,(⟨#[32,62,61,32]⟩:ByteArray)=k:=⟨_,rfl⟩
 rw [hks0] at S8 D8
 simp only [decisionRV] at K1
 have C3_:(a0.Kind==1)=false:=by simpa using C3
 have C3_n:(a0.Kind !=1)=true:=by simpa using C3
 have C4_:(a0.Kind==2)=false:=by simpa using C4
 have C4_n:(a0.Kind !=2)=true:=by simpa using C4
 have C5_:(a0.Kind==3)=true:=by rw [C5];simp
 have C5_n:(a0.Kind !=3)=false:=by rw [C5];simp
 have S7_r:=cat_r S7 D7
 have S7_q:=cat_q S7 D7
 have S8_r:=cat_r S8 D8
 have S8_q:=cat_q S8 D8
 have S10_r:=cat_r S10 D10
 have S10_q:=cat_q S10 D10
 unfold run fnP
 simp+decide [Tryz.f10,K1,C2,C3_,C3_n,C4_,C4_n,C5_,C5_n,K6,↓S7_r,S7_q,↓S8_r,S8_q,K9,↓S10_r,S10_q,hks0]
theorem ftx4_f5(C3:¬a0.Kind=1)(C4:¬a0.Kind=2)(C5:¬a0.Kind=3)(K6:run (n+41) 32 [.lit (.int .i64 (a0.Index))]=some (.lit (.string r6)))(S7:(⟨#[120]⟩:ByteArray).size+r6.size≤9000000000000000000)(D7:cat8=(⟨#[120]⟩:ByteArray)++r6)(S8:cat8.size+(⟨#[32,60,61,32]⟩:ByteArray).size≤9000000000000000000)(D8:cat9=cat8++(⟨#[32,60,61,32]⟩:ByteArray))(K9:run (n+41) 33 [.agg [.lit (.bool a0.At.s),natA a0.At.l1,natA a0.At.l2]]=some (.lit (.string r7)))(S10:cat9.size+r7.size≤9000000000000000000)(D10:cat10=cat9++r7):
  run (n+42) 10 [decisionRV a0]=some (.lit (.string cat10)):=by
 obtain ⟨ks0,hks0⟩:∃k:ByteArray,(⟨#[32,60,61,32]⟩:ByteArray)=k:=⟨_,rfl⟩
 rw [hks0] at S8 D8
 simp only [decisionRV] at K1
 have C3_:(a0.Kind==1)=false:=by simpa using C3
 have C3_n:(a0.Kind !=1)=true:=by simpa using C3
 have C4_:(a0.Kind==2)=false:=by simpa using C4
 have C4_n:(a0.Kind !=2)=true:=by simpa using C4
 have C5_:(a0.Kind==3)=false:=by simpa using C5
 have C5_n:(a0.Kind !=3)=true:=by simpa using C5
 have S7_r:=cat_r S7 D7
 have S7_q:=cat_q S7 D7
 have S8_r:=cat_r S8 D8
 have S8_q:=cat_q S8 D8
 have S10_r:=cat_r S10 D10
 have S10_q:=cat_q S10 D10
 unfold run fnP
 simp+decide [Tryz.f10,K1,C2,C3_,C3_n,C4_,C4_n,C5_,C5_n,K6,↓S7_r,S7_q,↓S8_r,S8_q,K9,↓S10_r,S10_q,hks0]
end
end
section
variable {n : Nat} {a0 : Int} {cat : ByteArray} {r : ByteArray}
theorem fdi4_f1(C1:a0<10)(W2:InI (48+a0))(W3:IntKind.u8.wrap (48+a0)=48+a0)(O4:0≤48+a0∧48+a0<256):
  run (n+41) 32 [.lit (.int .i64 a0)]=some (.lit (.string ((oneB (48+a0))))):=by
 have W2_:IntKind.i64.wrap (48+a0)=48+a0:=wr64 W2.1 W2.2
 have O4_:=strOf_one O4.1 O4.2
 unfold run fnP
 simp+decide [Tryz.f32,C1,W2_,W3,O4_]
theorem fdi4_f2(C1:¬a0<10)(W2:InI (a0.tdiv 10))(K3:run (n+40) 32 [.lit (.int .i64 (a0.tdiv 10))]=some (.lit (.string r)))(W4:InI (48+(a0.tmod 10)))(W5:IntKind.u8.wrap (48+(a0.tmod 10))=48+(a0.tmod 10))(O6:0≤48+(a0.tmod 10)∧48+(a0.tmod 10)<256)(S7:r.size+((oneB (48+(a0.tmod 10)))).size≤9000000000000000000)(D7:cat=r++((oneB (48+(a0.tmod 10))))):
  run (n+41) 32 [.lit (.int .i64 a0)]=some (.lit (.string cat)):=by
 have W2_:IntKind.i64.wrap (a0.tdiv 10)=a0.tdiv 10:=wr64 W2.1 W2.2
 have W4_:IntKind.i64.wrap (48+(a0.tmod 10))=48+(a0.tmod 10):=wr64 W4.1 W4.2
 have O6_:=strOf_one O6.1 O6.2
 have S7_r:=cat_r S7 D7
 have S7_q:=cat_q S7 D7
 obtain ⟨o1,ho1⟩:∃o,oneB (48+(a0.tmod 10))=o:=⟨_,rfl⟩
 rw [ho1] at O6_ S7_r S7_q
 have tR1:tab (n+41) 32=some (.pure (run (n+40) 32)):=tb_32 _
 obtain ⟨R1,hR1⟩:∃R,run (n+40) 32=R:=⟨_,rfl⟩
 rw [hR1] at K3 tR1
 unfold run fnP
 obtain ⟨O,hO⟩:∃O,tab (n+41)=O:=⟨_,rfl⟩
 rw [hO] at tR1 ⊢
 clear hR1 hO
 simp+decide [tR1, Tryz.f32,C1,W2_,K3,W4_,W5,O6_,↓S7_r,S7_q]
end
theorem fsm4_f1{n:Nat}{a0:TDecisionR}{a1:TDecision}(C1:a0.Kind=a1.Kind)(C2:a0.Index=a1.Index)(B3a:RawB a0.At)(B3bH:H a1.At≤17179869184):
  run n 13 [decisionRV a0,decisionV a1]=some (.lit (.bool (decide (a0.At=rawQ a1.At)))):=by
 have C1_:(a0.Kind==a1.Kind)=true:=by rw [C1];simp
 have C1_n:(a0.Kind !=a1.Kind)=false:=by rw [C1];simp
 have C2_:(a0.Index==a1.Index)=true:=by rw [C2];simp
 have C2_n:(a0.Index !=a1.Index)=false:=by rw [C2];simp
 have B3b:=rawB_q B3bH
 have K3:=rr_same B3a B3b
 try simp only [rawQ_q] at K3
 unfold run fnP
 simp+decide [Tryz.f13,C1_,C1_n,C2_,C2_n,K3]
end
section
open Go.RowKit
open Lib (decDigits)
attribute [local irreducible] run runL loopG exec
structure DVR (d:TDecisionR):Prop where
 i:0≤d.Index
 k:((d.Kind=1∨d.Kind=2)∧d.Index<1024∧d.At=rawQ 0)∨((d.Kind=3∨d.Kind=4)∧d.Index<256∧RatV d.At.s d.At.l1 d.At.l2)
theorem tvI{p q:Prop}(h:p↔q):tv p=tv q:=by
 by_cases hq:q
 ·rw [tv_t (h.2 hq),tv_t hq]
 ·rw [tv_f (fun hp=>hq (h.1 hp)),tv_f hq]
theorem ratV_rawQ(q:Rat):RatV (rawQ q).s (rawQ q).l1 (rawQ q).l2:=by
 have h:sv (rawQ q).s (rawQ q).l1 (rawQ q).l2=q:=rawQ_q q
 unfold RatV
 rw [h]
 exact ⟨rfl,rfl,rfl⟩
def rwD(d:TDecision):TDecisionR:=⟨d.Kind,d.Index,rawQ d.At⟩
theorem rawQ_0{q:Rat}:rawQ q=rawQ 0↔q=0:=⟨fun h=>by
 have h1:=rawQ_q q
 have h2:=rawQ_q 0
 rw [h,h2] at h1
 exact h1.symm,fun h=>by rw [h]⟩
theorem dvr_dval(d:TDecision):DVR (rwD d)↔DVal d:=by
 constructor
 ·rintro ⟨h1,h2⟩
  refine ⟨h1,?_⟩
  rcases h2 with ⟨a,b,c⟩|⟨a,b,c⟩
  ·exact .inl ⟨a,b,rawQ_0.1 c⟩
  ·exact .inr ⟨a,b⟩
 ·rintro ⟨h1,h2⟩
  refine ⟨h1,?_⟩
  rcases h2 with ⟨a,b,c⟩|⟨a,b⟩
  ·exact .inl ⟨a,b,by show rawQ d.At=_;rw [c]⟩
  ·exact .inr ⟨a,b,ratV_rawQ _⟩
section
variable {n : Nat}
theorem pze_c{r:Raw}:run n 76 [.agg [.lit (.bool r.s),natA r.l1,natA r.l2]]=some (.lit (.bool (tv (r=rawQ 0)))):=by
 have e:rawQ 0=⟨false,[],[]⟩:=by decide+kernel
 obtain ⟨s,a,b⟩:=r
 rw [e]
 cases hs:s with
 | true=>
   rw [tv_f (fun h=>by cases h)]
   exact pze_f3 (a0:=⟨true,a,b⟩) rfl
 | false=>
   by_cases ha:a=[]
   ·subst ha
    have R:=pze_f1 (n:=n) (a0:=⟨false,[],b⟩) rfl rfl
    rw [R]
    cases b with
    | nil=>rw [tv_t rfl];rfl
    | cons x b=>
      rw [tv_f (fun h=>by cases h)]
      have:(((x::b).length:Int)==0)=false:=by
       rw [List.length_cons]
       have h9:¬((b.length+1:Nat):Int)=0:=by omega
       simpa using h9
      rw [this]
   ·rw [tv_f (fun h=>ha (by cases h;rfl))]
    refine pze_f2 (a0:=⟨false,a,b⟩) rfl ?_
    intro h
    exact ha (List.eq_nil_of_length_eq_zero (by
     have:(a.length:Int)=0:=h
     omega))
theorem pun_c{d:TDecisionR}:run n 70 [decisionRV d]=some (.lit (.bool (tv (d.Kind=1∨d.Kind=2)))):=by
 by_cases h:d.Kind=1
 ·rw [tv_t (.inl h)];exact pun_f1 h
 ·have R:=pun_f2 (n:=n) (a0:=d) h
  rw [R]
  by_cases h2:d.Kind=2
  ·rw [tv_t (.inr h2),h2];rfl
  ·rw [tv_f (fun h9=>by rcases h9 with h9|h9;exact h h9;exact h2 h9)]
   have:(d.Kind==2)=false:=by simpa using h2
   rw [this]
theorem pva_c{d:TDecisionR}(hB:RawB d.At):run (n+1) 29 [decisionRV d]=some (.lit (.bool (tv (DVR d)))):=by
 have U:=pun_c (n:=n) (d:=d)
 by_cases h0:d.Index<0
 ·rw [tv_f (fun h=>by have:=h.i;omega)];exact pva_f1 h0
 by_cases hu:d.Kind=1∨d.Kind=2
 ·rw [tv_t hu] at U
  by_cases h1:d.Index<1024
  ·have Z:=pze_c (n:=n) (r:=d.At)
   rw [tvI (p:=DVR d) (q:=d.At=rawQ 0) ⟨fun h=>by
    rcases h.k with ⟨_,_,c⟩|⟨a,_,_⟩
    ·exact c
    ·omega,fun h=>⟨by omega,.inl ⟨hu,h1,h⟩⟩⟩]
   exact pva_f2 h0 U rfl h1 Z
  ·rw [tv_f (fun h=>by rcases h.k with ⟨_,b,_⟩|⟨a,_,_⟩ <;>omega)]
   exact pva_f3 h0 U rfl h1
 ·rw [tv_f hu] at U
  by_cases h3:d.Kind=3
  ·by_cases h1:d.Index<256
   ·have R:=pva_f4 (n:=n) h0 U rfl h3 h1 hB
    rw [R,tvI (p:=DVR d) (q:=RatV d.At.s d.At.l1 d.At.l2) ⟨fun h=>by
     rcases h.k with ⟨a,_,_⟩|⟨_,_,c⟩
     ·exact absurd a hu
     ·exact c,fun h=>⟨by omega,.inr ⟨.inl h3,h1,h⟩⟩⟩]
    by_cases hv:RatV d.At.s d.At.l1 d.At.l2
    ·rw [tv_t hv,decide_eq_true hv]
    ·rw [tv_f hv,decide_eq_false hv]
   ·rw [tv_f (fun h=>by rcases h.k with ⟨a,_,_⟩|⟨_,b,_⟩ <;>omega)]
    exact pva_f5 h0 U rfl h3 h1
  ·by_cases h4:d.Kind=4
   ·by_cases h1:d.Index<256
    ·have R:=pva_f6 (n:=n) h0 U rfl h3 h4 h1 hB
     rw [R,tvI (p:=DVR d) (q:=RatV d.At.s d.At.l1 d.At.l2) ⟨fun h=>by
      rcases h.k with ⟨a,_,_⟩|⟨_,_,c⟩
      ·exact absurd a hu
      ·exact c,fun h=>⟨by omega,.inr ⟨.inr h4,h1,h⟩⟩⟩]
     by_cases hv:RatV d.At.s d.At.l1 d.At.l2
     ·rw [tv_t hv,decide_eq_true hv]
     ·rw [tv_f hv,decide_eq_false hv]
    ·rw [tv_f (fun h=>by rcases h.k with ⟨a,_,_⟩|⟨_,b,_⟩ <;>omega)]
     exact pva_f7 h0 U rfl h3 h4 h1
   ·rw [tv_f (fun h=>by rcases h.k with ⟨a,_,_⟩|⟨a,b,_⟩ <;>omega)]
    exact pva_f8 h0 U rfl h3 h4
theorem dec_tv{p q:Prop}{inst:Decidable q}(h:p↔q):@decide q inst=tv p:=by
 by_cases hq:q
 ·rw [decide_eq_true hq,tv_t (h.2 hq)]
 ·rw [decide_eq_false hq,tv_f (fun hp=>hq (h.1 hp))]
theorem fva4_c{d:TDecisionR}(hB:RawB d.At):run n 12 [decisionRV d]=some (.lit (.bool (tv (DVR d)))):=by
 have no:(d.Kind=1∨d.Kind=2)→¬d.Index<1024→¬DVR d:=fun hu h1 h=>by rcases h.k with ⟨_,b,_⟩|⟨a,_,_⟩ <;>omega
 have no2:(d.Kind=3∨d.Kind=4)→¬d.Index<256→¬DVR d:=fun hu h1 h=>by rcases h.k with ⟨a,_,_⟩|⟨_,b,_⟩ <;>omega
 have no3:¬0≤d.Index→¬DVR d:=fun h0 h=>h0 h.i
 have z:(d.Kind=1∨d.Kind=2)→0≤d.Index→d.Index<1024→(DVR d↔d.At=rawQ 0):=fun hu h0 h1=>⟨fun h=>by
  rcases h.k with ⟨_,_,c⟩|⟨a,_,_⟩
  ·exact c
  ·omega,fun h=>⟨h0,.inl ⟨hu,h1,h⟩⟩⟩
 have v:(d.Kind=3∨d.Kind=4)→0≤d.Index→d.Index<256→(DVR d↔RatV d.At.s d.At.l1 d.At.l2):=fun hu h0 h1=>⟨fun h=>by
  rcases h.k with ⟨a,_,_⟩|⟨_,_,c⟩
  ·omega
  ·exact c,fun h=>⟨h0,.inr ⟨hu,h1,h⟩⟩⟩
 by_cases k1:d.Kind=1
 ·by_cases h0:0≤d.Index
  ·by_cases h1:d.Index<1024
   ·have R:=fva4_f1 (n:=n) k1 h0 h1 hB
    rw [R,dec_tv (z (.inl k1) h0 h1)]
   ·rw [tv_f (no (.inl k1) h1)];exact fva4_f2 k1 h0 h1
  ·rw [tv_f (no3 h0)];exact fva4_f3 k1 h0
 by_cases k2:d.Kind=2
 ·by_cases h0:0≤d.Index
  ·by_cases h1:d.Index<1024
   ·have R:=fva4_f4 (n:=n) k1 k2 h0 h1 hB
    rw [R,dec_tv (z (.inr k2) h0 h1)]
   ·rw [tv_f (no (.inr k2) h1)];exact fva4_f5 k1 k2 h0 h1
  ·rw [tv_f (no3 h0)];exact fva4_f6 k1 k2 h0
 by_cases k3:d.Kind=3
 ·by_cases h0:0≤d.Index
  ·by_cases h1:d.Index<256
   ·have R:=fva4_f7 (n:=n) k1 k2 k3 h0 h1 hB
    rw [R,dec_tv (v (.inl k3) h0 h1)]
   ·rw [tv_f (no2 (.inl k3) h1)];exact fva4_f8 k1 k2 k3 h0 h1
  ·rw [tv_f (no3 h0)];exact fva4_f9 k1 k2 k3 h0
 by_cases k4:d.Kind=4
 ·by_cases h0:0≤d.Index
  ·by_cases h1:d.Index<256
   ·have R:=fva4_f10 (n:=n) k1 k2 k3 k4 h0 h1 hB
    rw [R,dec_tv (v (.inr k4) h0 h1)]
   ·rw [tv_f (no2 (.inr k4) h1)];exact fva4_f11 k1 k2 k3 k4 h0 h1
  ·rw [tv_f (no3 h0)];exact fva4_f12 k1 k2 k3 k4 h0
 rw [tv_f (fun h=>by rcases h.k with ⟨a,_,_⟩|⟨a,_,_⟩ <;>omega)]
 exact fva4_f13 k1 k2 k3 k4
theorem decL_dd(k:Nat):(decL k).map UInt8.ofNat=decDigits k:=by
 induction k using Nat.strongRecOn with
 | ind k ih=>
   by_cases h:k<10
   ·rw [decL,dif_pos h,dd_lt h];rfl
   ·rw [decL,dif_neg h,dd_ge h,List.map_append,ih _ (by omega)];rfl
theorem sB_raw{q:Rat}:sB (rawT (rawQ q))=bs (rtx q):=by
 unfold sB bs rawT rtx absT
 congr 2
 have e1:val (rawQ q).l1=q.num.natAbs:=val_lmb _
 rw [List.map_append,List.map_append,e1,decL_dd]
 by_cases hd:q.den=1
 ·have el:(rawQ q).l2=[]:=by show dlmb q.den=[];unfold dlmb;rw [if_pos hd]
  rw [el,if_neg (show ¬0<([]:List Nat).length by decide),if_pos hd]
  cases hn:ngT q with
  | true=>rw [show (rawQ q).s=true from hn];rfl
  | false=>rw [show (rawQ q).s=false from hn];rfl
 ·have el:(rawQ q).l2=lmb q.den:=by show dlmb q.den=_;unfold dlmb;rw [if_neg hd]
  have hp:0<(rawQ q).l2.length:=by
   rw [el]
   have:=@lmb0 q.den
   have:=q.den_pos
   omega
  rw [if_pos hp,el,val_lmb,List.map_append,decL_dd,if_neg hd]
  cases hn:ngT q with
  | true=>rw [show (rawQ q).s=true from hn];simp
  | false=>rw [show (rawQ q).s=false from hn];simp
theorem dt_c{q:Rat}(hq:H q≤1000):oDT [ratV q]=some (.lit (.string (bs (rtx q)))):=by
 have hb:=rawB_q (q:=q) (by omega)
 have h1:decR (.agg [.lit (.bool (rawQ q).s),natA (rawQ q).l1,natA (rawQ q).l2])=some (rawQ q):=decR_av hb.n hb.d
 have a1:(lmb q.num.natAbs).length≤H q:=Nat.le_max_left _ _
 have a2:(dlmb q.den).length≤H q:=Nat.le_trans (dlmb_len _) (Nat.le_max_right _ _)
 unfold oDT
 simp only [ratV,h1]
 rw [if_pos ⟨by show (lmb q.num.natAbs).length≤_;omega,by show (dlmb q.den).length≤_;omega⟩,sB_raw]
theorem rtx_len{q:Rat}{m:Nat}(hm:1≤m)(h:H q≤m):(rtx q).length≤20*m+2:=by
 have:=(abs_lm hm h).1
 unfold rtx
 rw [List.length_append]
 split
 ·simp;omega
 ·simp;omega
theorem ix_len{i:Int}(h0:0≤i)(h1:i<1024):(decDigits i.toNat).length≤4:=dd_ten 3 i.toNat (by omega)
theorem cat3(a:UInt8)(k:Nat)(B:List UInt8):bs (a::(decDigits k++B))=(bs [a]++bs (decDigits k))++bs B:=by
 rw [bs_app,bs_app]
 rw [List.append_assoc];rfl
theorem ptx_c{d:TDecision}(hd:DVal d)(hH:H d.At≤1000):run (n+6) 9 [decisionV d]=some (.lit (.string (bs (dtxt d)))):=by
 have hi:d.Index<1024:=by rcases hd.k with ⟨_,b,_⟩|⟨_,b⟩ <;>omega
 have l1:=ix_len hd.i hi
 have l2:=rtx_len (m:=1000) (by omega) hH
 have V:=pva_c (n:=n+4) (d:=rwD d) (rawB_q (by show H d.At≤_;omega))
 rw [tv_t ((dvr_dval d).2 hd)] at V
 have K3:=k_itoa (v:=d.Index) hd.i (by omega)
 have s117:(⟨#[117]⟩:ByteArray).size=1:=rfl
 have s120:(⟨#[120]⟩:ByteArray).size=1:=rfl
 have s3:(⟨#[32,111,110]⟩:ByteArray).size=3:=rfl
 have s4:(⟨#[32,111,102,102]⟩:ByteArray).size=4:=rfl
 have s5:(⟨#[32,62,61,32]⟩:ByteArray).size=4:=rfl
 have s6:(⟨#[32,60,61,32]⟩:ByteArray).size=4:=rfl
 have sz:∀(a:UInt8),(bs [a]++bs (decDigits d.Index.toNat)).size≤5:=fun a=>by rw [bs_app,bs_size];simp;omega
 have DT:=dt_c hH
 by_cases k1:d.Kind=1
 ·have e:dtxt d=117::(decDigits d.Index.toNat++[32,111,110]):=if_pos k1
  rw [e,cat3]
  exact ptx_f2 (a0:=rwD d) V rfl K3 k1 (by rw [s117,bs_size];omega) rfl (by have:=sz 117;rw [s3];show (bs [117]++_).size+3≤_;omega) rfl
 by_cases k2:d.Kind=2
 ·have e:dtxt d=117::(decDigits d.Index.toNat++[32,111,102,102]):=by unfold dtxt;rw [if_neg k1,if_pos k2]
  rw [e,cat3]
  exact ptx_f3 (a0:=rwD d) V rfl K3 k1 k2 (by rw [s117,bs_size];omega) rfl (by have:=sz 117;rw [s4];show (bs [117]++_).size+4≤_;omega) rfl
 have k34:d.Kind=3∨d.Kind=4:=by rcases hd.k with ⟨a,_,_⟩|⟨a,_⟩ <;>omega
 have f2:∀(B:List UInt8) (T:List UInt8),bs (120::(decDigits d.Index.toNat++(B++T)))=((bs [120]++bs (decDigits d.Index.toNat))++bs B)++bs T:=fun B T=>by
  rw [cat3,bs_app,bs_app,bs_app,bs_app];simp
 by_cases k3:d.Kind=3
 ·have e:dtxt d=120::(decDigits d.Index.toNat++([32,62,61,32]++rtx d.At)):=by unfold dtxt;rw [if_neg k1,if_neg k2,if_pos k3];rfl
  rw [e,f2]
  exact ptx_f4 (a0:=rwD d) V rfl K3 k1 k2 k3 (by rw [s120,bs_size];omega) rfl (by have:=sz 120;rw [s5];show (bs [120]++_).size+4≤_;omega) rfl DT (by
   have:=sz 120
   rw [ByteArray.size_append] at this
   show ((bs [120]++bs (decDigits d.Index.toNat))++bs [32,62,61,32]).size+_≤_
   rw [ByteArray.size_append,bs_size,bs_size];simp;omega) rfl
 ·have e:dtxt d=120::(decDigits d.Index.toNat++([32,60,61,32]++rtx d.At)):=by unfold dtxt;rw [if_neg k1,if_neg k2,if_neg k3];rfl
  rw [e,f2]
  exact ptx_f5 (a0:=rwD d) V rfl K3 k1 k2 k3 (by rw [s120,bs_size];omega) rfl (by have:=sz 120;rw [s6];show (bs [120]++_).size+4≤_;omega) rfl DT (by
   have:=sz 120
   rw [ByteArray.size_append] at this
   show ((bs [120]++bs (decDigits d.Index.toNat))++bs [32,60,61,32]).size+_≤_
   rw [ByteArray.size_append,bs_size,bs_size];simp;omega) rfl
theorem ptx_0{d:TDecisionR}(hB:RawB d.At)(hd:¬DVR d):run (n+6) 9 [decisionRV d]=some (.lit (.string (⟨#[]⟩:ByteArray))):=by
 have V:=pva_c (n:=n+4) hB
 rw [tv_f hd] at V
 exact ptx_f1 V rfl
theorem td10(d:Nat):((d:Int)).tdiv 10=((d / 10:Nat):Int)∧((d:Int)).tmod 10=((d % 10:Nat):Int):=⟨rfl,rfl⟩
theorem fdi4_c:∀(k n d:Nat),k≤n→d<10 ^ (k+1)→d≤100000→run (n+41) 32 [.lit (.int .i64 (d:Int))]=some (.lit (.string (bs (decDigits d))))
 | k,n,d,hk,hd,hb=>by
   by_cases h:d<10
   ·have R:=fdi4_f1 (n:=n) (a0:=(d:Int)) (by omega) ⟨by omega,by omega⟩ (wrB (by omega) (by omega)) ⟨by omega,by omega⟩
    rw [R,oneB_dig,dd_lt h]
   ·cases k with
    | zero=>rw [Nat.zero_add,Nat.pow_one] at hd;omega
    | succ k=>
      obtain ⟨m,rfl⟩:∃m,n=m+1:=⟨n-1,by omega⟩
      have ih:=fdi4_c k m (d / 10) (by omega) (by rw [Nat.pow_succ] at hd;exact Nat.div_lt_of_lt_mul (by omega)) (by omega)
      obtain ⟨e1,e2⟩:=td10 d
      have hl:(decDigits (d / 10)).length≤6:=dd_ten 5 _ (by omega)
      have R:=fdi4_f2 (n:=m+1) (a0:=(d:Int)) (r:=bs (decDigits (d / 10))) (cat:=bs (decDigits d)) (by omega) (by rw [e1];exact ⟨by omega,by omega⟩) (by rw [e1];exact ih) (by rw [e2];exact ⟨by omega,by omega⟩) (by rw [e2];exact wrB (by omega) (by omega)) (by rw [e2];exact ⟨by omega,by omega⟩) (by rw [e2,oneB_dig,bs_size,bs_size,List.length_singleton];omega) (by rw [e2,oneB_dig,bs_app,dd_ge h])
      exact R
theorem ftx4_c{d:TDecision}(hd:DVal d)(hH:H d.At≤1000)(hn:3≤n):run (n+42) 10 [decisionV d]=some (.lit (.string (bs (dtxt d)))):=by
 have hi:d.Index<1024:=by rcases hd.k with ⟨_,b,_⟩|⟨_,b⟩ <;>omega
 have l1:=ix_len hd.i hi
 have l2:=rtx_len (m:=1000) (by omega) hH
 have V:=fva4_c (n:=n+41) (d:=rwD d) (rawB_q (by show H d.At≤_;omega))
 rw [tv_t ((dvr_dval d).2 hd)] at V
 have K3:=fdi4_c 3 n d.Index.toNat hn (by have:(10:Nat) ^ (3+1)=10000:=by decide
                                          omega) (by omega)
 have ei:((d.Index.toNat:Nat):Int)=d.Index:=by have:=hd.i;omega
 rw [ei] at K3
 have s117:(⟨#[117]⟩:ByteArray).size=1:=rfl
 have s120:(⟨#[120]⟩:ByteArray).size=1:=rfl
 have s3:(⟨#[32,111,110]⟩:ByteArray).size=3:=rfl
 have s4:(⟨#[32,111,102,102]⟩:ByteArray).size=4:=rfl
 have s5:(⟨#[32,62,61,32]⟩:ByteArray).size=4:=rfl
 have s6:(⟨#[32,60,61,32]⟩:ByteArray).size=4:=rfl
 have sz:∀(a:UInt8),(bs [a]++bs (decDigits d.Index.toNat)).size≤5:=fun a=>by rw [bs_app,bs_size];simp;omega
 have DT:=f4T_c (n:=n+36) hH
 by_cases k1:d.Kind=1
 ·have e:dtxt d=117::(decDigits d.Index.toNat++[32,111,110]):=if_pos k1
  rw [e,cat3]
  exact ftx4_f2 (a0:=rwD d) V rfl k1 K3 (by rw [s117,bs_size];omega) rfl (by have:=sz 117;rw [s3];show (bs [117]++_).size+3≤_;omega) rfl
 by_cases k2:d.Kind=2
 ·have e:dtxt d=117::(decDigits d.Index.toNat++[32,111,102,102]):=by unfold dtxt;rw [if_neg k1,if_pos k2]
  rw [e,cat3]
  exact ftx4_f3 (a0:=rwD d) V rfl k1 k2 K3 (by rw [s117,bs_size];omega) rfl (by have:=sz 117;rw [s4];show (bs [117]++_).size+4≤_;omega) rfl
 have f2:∀(B:List UInt8) (T:List UInt8),bs (120::(decDigits d.Index.toNat++(B++T)))=((bs [120]++bs (decDigits d.Index.toNat))++bs B)++bs T:=fun B T=>by
  rw [cat3,bs_app,bs_app,bs_app,bs_app];simp
 by_cases k3:d.Kind=3
 ·have e:dtxt d=120::(decDigits d.Index.toNat++([32,62,61,32]++rtx d.At)):=by unfold dtxt;rw [if_neg k1,if_neg k2,if_pos k3];rfl
  rw [e,f2]
  exact ftx4_f4 (a0:=rwD d) V rfl k1 k2 k3 K3 (by rw [s120,bs_size];omega) rfl (by have:=sz 120;rw [s5];show (bs [120]++_).size+4≤_;omega) rfl DT (by
   have:=sz 120
   rw [ByteArray.size_append] at this
   show ((bs [120]++bs (decDigits d.Index.toNat))++bs [32,62,61,32]).size+_≤_
   rw [ByteArray.size_append,bs_size,bs_size];simp;omega) rfl
 ·have e:dtxt d=120::(decDigits d.Index.toNat++([32,60,61,32]++rtx d.At)):=by unfold dtxt;rw [if_neg k1,if_neg k2,if_neg k3];rfl
  rw [e,f2]
  exact ftx4_f5 (a0:=rwD d) V rfl k1 k2 k3 K3 (by rw [s120,bs_size];omega) rfl (by have:=sz 120;rw [s6];show (bs [120]++_).size+4≤_;omega) rfl DT (by
   have:=sz 120
   rw [ByteArray.size_append] at this
   show ((bs [120]++bs (decDigits d.Index.toNat))++bs [32,60,61,32]).size+_≤_
   rw [ByteArray.size_append,bs_size,bs_size];simp;omega) rfl
end
end
end Go.Proofs.YtnegdhjdienjlaaGreatDoor
