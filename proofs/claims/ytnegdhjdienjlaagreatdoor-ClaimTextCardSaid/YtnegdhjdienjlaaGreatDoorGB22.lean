import Derived.Test.YtnegdhjdienjlaaGreatDoorGB16
import Derived.Test.YtnegdhjdienjlaaGreatDoorGB17
import Derived.Test.YtnegdhjdienjlaaGreatDoorGB20
import Derived.Test.YtnegdhjdienjlaaGreatDoorGB21
set_option linter.all false
set_option maxHeartbeats 6400000
set_option maxRecDepth 100000
namespace Go.Proofs.YtnegdhjdienjlaaGreatDoor
section
open Go.RowKit
noncomputable def lps_C7:Code:=(loopsOf (bodyOf Tryz.f124)).getD 0 .skip
def lps_h7(a0:ByteArray)(d_7:Bool)(i_7:Int)(l_7:List (Int × Rat))(s_7:Rat):St:=
 ⟨[(0,.lit (.string a0)),(2,.ptr 0 0),(5,.ptr 1 0),(6,.ptr 2 0),(7,.lit (.bool d_7))],
  [(0,some (.box 79 [.nl 4,.lit (.bool false),.nl 1,.nl 1] false)),
   (1,some (.box 201 [.lit (.string a0),.lit (.int .i64 i_7)] false)),
   (2,some (.box 79 [.sl 4 (l_7.map termC),.lit (.bool (rawQ s_7).s),natA (rawQ s_7).l1,natA (rawQ s_7).l2] false))],3⟩
def lps_o7a(z15:Int):St:=
 ⟨[(2,.ptr 0 0),(3,.lit (.int .i64 z15)),(4,.lit (.int .i64 4))],
  [(0,some (.box 79 [.nl 4,.lit (.bool false),.nl 1,.nl 1] false))],1⟩
def lps_o7b(r11:Form):St:=
 ⟨[(2,.ptr 0 0),(3,.lit (.int .i64 0)),(4,.lit (.int .i64 0))],
  [(0,some (.box 79 [.sl 4 (r11.1.map termC),.lit (.bool (rawQ r11.2).s),natA (rawQ r11.2).l1,natA (rawQ r11.2).l2] false))],1⟩
def lps_o7c(z17:Int):St:=
 ⟨[(2,.ptr 0 0),(3,.lit (.int .i64 z17)),(4,.lit (.int .i64 4))],
  [(0,some (.box 79 [.nl 4,.lit (.bool false),.nl 1,.nl 1] false))],1⟩
section
variable{s_7:Rat}{r14:Bool}{n:Nat}{z17:Int}{r12:Bool}{l_7:List (Int × Rat)}{d_7:Bool}{r11:Form}{z18:Int}{z14:Int}{z16:Int}{a0:ByteArray}{r13:Bool}{z15:Int}{i_7:Int}{z2:Int}{r2:Bool}{z3:Int}{r:Bool}{z:Int}
section
variable(K1:runL (n+10) 175 [.ptr 0 0] [.box 201 [.lit (.string a0),.lit (.int .i64 i_7)] false]=some (.tup [],[(0,.box 201 [.lit (.string a0),.lit (.int .i64 z14)] false)]))(K2:runL (n+10) 177 [.ptr 0 0,formV (l_7,s_7),.lit (.bool d_7)] [.box 201 [.lit (.string a0),.lit (.int .i64 z14)] false]=some (.tup [formV r11,.lit (.bool r12)],[(0,.box 201 [.lit (.string a0),.lit (.int .i64 z15)] false)]))
include K1 K2
theorem lps_r7_1(C3:r12=true)(K4:runL (n+10) 175 [.ptr 0 0] [.box 201 [.lit (.string a0),.lit (.int .i64 z15)] false]=some (.tup [],[(0,.box 201 [.lit (.string a0),.lit (.int .i64 z16)] false)]))(C5:¬z16=(a0.size:Int))(K6:runL (n+10) 176 [.ptr 0 0,.lit (.string (⟨#[43,45]⟩:ByteArray))] [.box 201 [.lit (.string a0),.lit (.int .i64 z16)] false]=some (.lit (.bool r13),[(0,.box 201 [.lit (.string a0),.lit (.int .i64 z17)] false)]))(C7:r13=true)(K8:runL (n+10) 176 [.ptr 0 0,.lit (.string (⟨#[45]⟩:ByteArray))] [.box 201 [.lit (.string a0),.lit (.int .i64 z17)] false]=some (.lit (.bool r14),[(0,.box 201 [.lit (.string a0),.lit (.int .i64 z18)] false)]))(W9:InI (z18+1)):
  Cont 0 (exec Tryz.prog (tab (n+11)) 0 68 (livesOf 124) big lps_C7) (livesOf 124 7) (lps_h7 a0 d_7 i_7 l_7 s_7) (lps_h7 a0 r14 (z18+1) r11.1 r11.2):=by
 simp only [formV] at K2
 have C5_:(z16==(a0.size:Int))=false:=by simpa using C5
 have C5_n:(z16 !=(a0.size:Int))=true:=by simpa using C5
 have W9_:IntKind.i64.wrap (z18+1)=z18+1:=wr64 W9.1 W9.2
 rw [C3] at K2
 rw [C7] at K6
 unfold Cont
 simp+decide [lps_h7,loopsOf, Tryz.f124,lps_C7,K1,K2,C3,K4,C5_,C5_n,K6,C7,K8,W9_]
 all_goals simp+decide [natA]
theorem lps_x7_1(C3:r12=false):
  Leave 0 (exec Tryz.prog (tab (n+11)) 0 68 (livesOf 124) big lps_C7) (livesOf 124 (outOf 7)) (lps_h7 a0 d_7 i_7 l_7 s_7) (.ret) (lps_o7a z15):=by
 simp only [formV] at K2
 rw [C3] at K2
 unfold Leave
 simp+decide [lps_h7,loopsOf, Tryz.f124,lps_o7a,lps_C7,K1,K2,C3]
section
variable(C3:r12=true)(K4:runL (n+10) 175 [.ptr 0 0] [.box 201 [.lit (.string a0),.lit (.int .i64 z15)] false]=some (.tup [],[(0,.box 201 [.lit (.string a0),.lit (.int .i64 z16)] false)]))
include C3 K4
theorem lps_x7_2(C5:z16=(a0.size:Int)):
  Leave 0 (exec Tryz.prog (tab (n+11)) 0 68 (livesOf 124) big lps_C7) (livesOf 124 (outOf 7)) (lps_h7 a0 d_7 i_7 l_7 s_7) (.ret) (lps_o7b r11):=by
 simp only [formV] at K2
 have C5_:(z16==(a0.size:Int))=true:=by rw [C5];simp
 have C5_n:(z16 !=(a0.size:Int))=false:=by rw [C5];simp
 rw [C3] at K2
 unfold Leave
 simp+decide [lps_h7,loopsOf, Tryz.f124,lps_o7b,lps_C7,K1,K2,C3,K4,C5_,C5_n]
theorem lps_x7_3(C5:¬z16=(a0.size:Int))(K6:runL (n+10) 176 [.ptr 0 0,.lit (.string (⟨#[43,45]⟩:ByteArray))] [.box 201 [.lit (.string a0),.lit (.int .i64 z16)] false]=some (.lit (.bool r13),[(0,.box 201 [.lit (.string a0),.lit (.int .i64 z17)] false)]))(C7:r13=false):
  Leave 0 (exec Tryz.prog (tab (n+11)) 0 68 (livesOf 124) big lps_C7) (livesOf 124 (outOf 7)) (lps_h7 a0 d_7 i_7 l_7 s_7) (.ret) (lps_o7c z17):=by
 simp only [formV] at K2
 have C5_:(z16==(a0.size:Int))=false:=by simpa using C5
 have C5_n:(z16 !=(a0.size:Int))=true:=by simpa using C5
 rw [C3] at K2
 rw [C7] at K6
 unfold Leave
 simp+decide [lps_h7,loopsOf, Tryz.f124,lps_o7c,lps_C7,K1,K2,C3,K4,C5_,C5_n,K6,C7]
end
end
section
variable(K1:runL (n+10) 175 [.ptr 0 0] [.box 201 [.lit (.string a0),.lit (.int .i64 0)] false]=some (.tup [],[(0,.box 201 [.lit (.string a0),.lit (.int .i64 z)] false)]))(K2:runL (n+10) 176 [.ptr 0 0,.lit (.string (⟨#[45]⟩:ByteArray))] [.box 201 [.lit (.string a0),.lit (.int .i64 z)] false]=some (.lit (.bool r),[(0,.box 201 [.lit (.string a0),.lit (.int .i64 z2)] false)]))(K3:runL (n+10) 176 [.ptr 0 0,.lit (.string (⟨#[43,45]⟩:ByteArray))] [.box 201 [.lit (.string a0),.lit (.int .i64 z2)] false]=some (.lit (.bool r2),[(0,.box 201 [.lit (.string a0),.lit (.int .i64 z3)] false)]))
include K1 K2 K3
theorem lps_f1(C4:r2=true)(W5:InI (z3+1))(L6:loopG Tryz.prog (tab (n+11)) 0 68 (livesOf 124) 7 lps_C7 (lps_h7 a0 r (z3+1) [] 0)=some (.ret,lps_o7a z15)):
  run (n+11) 124 [.lit (.string a0)]=some (.tup [.agg [.sl 4 [],.lit (.bool false),.sl 1 [],.sl 1 []],.lit (.int .i64 z15),.lit (.int .i64 4)]):=by
 have W5_:IntKind.i64.wrap (z3+1)=z3+1:=wr64 W5.1 W5.2
 rw [C4] at K3
 unfold run fnP
 simp+decide [Tryz.f124,K1,K2,K3,C4,W5_]
 rw [loopX_G (C':=lps_C7) (e:=(lps_h7 a0 r (z3+1) [] 0)) ?_ ?_,L6]
 rotate_left
 ·kernel_rfl
 ·simp+decide [lps_h7,K1,K2,K3,C4,W5_]
 simp+decide [lps_o7a,K1,K2,K3,C4,W5_]
theorem lps_f2(C4:r2=true)(W5:InI (z3+1))(L6:loopG Tryz.prog (tab (n+11)) 0 68 (livesOf 124) 7 lps_C7 (lps_h7 a0 r (z3+1) [] 0)=some (.ret,lps_o7b r11)):
  run (n+11) 124 [.lit (.string a0)]=some (.tup [formV r11,.lit (.int .i64 0),.lit (.int .i64 0)]):=by
 have W5_:IntKind.i64.wrap (z3+1)=z3+1:=wr64 W5.1 W5.2
 rw [C4] at K3
 unfold run fnP
 simp+decide [Tryz.f124,K1,K2,K3,C4,W5_]
 rw [loopX_G (C':=lps_C7) (e:=(lps_h7 a0 r (z3+1) [] 0)) ?_ ?_,L6]
 rotate_left
 ·kernel_rfl
 ·simp+decide [lps_h7,K1,K2,K3,C4,W5_]
 simp+decide [lps_o7b,K1,K2,K3,C4,W5_]
theorem lps_f4(C4:r2=false)(L5:loopG Tryz.prog (tab (n+11)) 0 68 (livesOf 124) 7 lps_C7 (lps_h7 a0 r z3 [] 0)=some (.ret,lps_o7a z15)):
  run (n+11) 124 [.lit (.string a0)]=some (.tup [.agg [.sl 4 [],.lit (.bool false),.sl 1 [],.sl 1 []],.lit (.int .i64 z15),.lit (.int .i64 4)]):=by
 rw [C4] at K3
 unfold run fnP
 simp+decide [Tryz.f124,K1,K2,K3,C4]
 rw [loopX_G (C':=lps_C7) (e:=(lps_h7 a0 r z3 [] 0)) ?_ ?_,L5]
 rotate_left
 ·kernel_rfl
 ·simp+decide [lps_h7,K1,K2,K3,C4]
 simp+decide [lps_o7a,K1,K2,K3,C4]
theorem lps_f5(C4:r2=false)(L5:loopG Tryz.prog (tab (n+11)) 0 68 (livesOf 124) 7 lps_C7 (lps_h7 a0 r z3 [] 0)=some (.ret,lps_o7b r11)):
  run (n+11) 124 [.lit (.string a0)]=some (.tup [formV r11,.lit (.int .i64 0),.lit (.int .i64 0)]):=by
 rw [C4] at K3
 unfold run fnP
 simp+decide [Tryz.f124,K1,K2,K3,C4]
 rw [loopX_G (C':=lps_C7) (e:=(lps_h7 a0 r z3 [] 0)) ?_ ?_,L5]
 rotate_left
 ·kernel_rfl
 ·simp+decide [lps_h7,K1,K2,K3,C4]
 simp+decide [lps_o7b,K1,K2,K3,C4]
end
end
end
section
open Go.RowKit
attribute [local irreducible] run runL loopG exec
section
variable {n k : Nat} {L l : List UInt8} {f : Form} {neg : Bool}
theorem isIn_2{a b c:UInt8}{r:List UInt8}:isIn [a,b] (c::r)=decide (c=a∨c=b):=by
 rw [isIn,Bool.eq_iff_iff]
 simp
def ResQ(L:List UInt8):Except (List UInt8) Form→St→Prop
 | .error r,t=>t=lps_o7a (po L r)
 | .ok g,t=>t=lps_o7b g
theorem lps_rnd(hL:L.length≤1000)(h:l <:+L)(hf:RdF k f)(hk:k≤1000):
  (∃l' neg' g,Cont 0 (exec Tryz.prog (tab (n+11)) 0 68 (livesOf 124) big lps_C7) (livesOf 124 7) (lps_h7 (bs L) neg (po L l) f.1 f.2) (lps_h7 (bs L) neg' (po L l') g.1 g.2)∧l' <:+l∧l'.length<l.length∧RdF (k+1) g∧∀m,psL (m+1) f neg l=psL m g neg' l')
  ∨∃t,Leave 0 (exec Tryz.prog (tab (n+11)) 0 68 (livesOf 124) big lps_C7) (livesOf 124 (outOf 7)) (lps_h7 (bs L) neg (po L l) f.1 f.2) (.ret) t∧∀m,ResQ L (psL (m+1) f neg l) t:=by
 have hs:=bs_size L
 have K1:=blank_c (n:=n+10) hL h
 have h1:=(skL_suf l).trans h
 have P:=part_c (n:=n) (neg:=neg) hL h1 hf hk
 cases e:paL f neg (skL l) with
 | error r=>
   rw [e] at P
   refine .inr ⟨_,lps_x7_1 (n:=n) K1 P.2 rfl,fun m=>?_⟩
   rw [psL,e]
   exact rfl
 | ok p=>
   obtain ⟨g,r⟩:=p
   rw [e] at P
   obtain ⟨s,hg,K2⟩:=P
   dsimp only at s hg K2
   have h2:=s.trans h1
   have h3:=(skL_suf r).trans h2
   have K4:=blank_c (n:=n+10) hL h2
   cases e2:skL r with
   | nil=>
     rw [e2] at K4
     refine .inr ⟨_,lps_x7_2 (n:=n) (r11:=g) K1 K2 rfl K4 (by rw [po_nil,hs]),fun m=>?_⟩
     rw [psL,e]
     dsimp only
     rw [e2]
     exact rfl
   | cons c r2=>
     rw [e2] at K4 h3
     obtain ⟨p1,p2⟩:=po_lt h3
     have p3:=po_rg L (c::r2)
     have K6:=is_c (n:=n+7) hL h3 [43,45]
     rw [isIn_2] at K6
     have K8:=is_c (n:=n+7) hL h3 [45]
     rw [isIn_1] at K8
     by_cases hc:c=43∨c=45
     ·have R:=lps_r7_1 (n:=n) (r11:=g) K1 K2 rfl K4 (by rw [hs];omega) K6 (decide_eq_true hc) K8 (po_in hL h3)
      rw [p2] at R
      have hl:r2 <:+l:=(suf_tl (e2▸skL_suf r)).trans (s.trans (skL_suf l))
      have hlt:r2.length<l.length:=by
       have a:=(skL_suf r).length_le
       have b:=s.length_le
       have c:=(skL_suf l).length_le
       rw [e2,List.length_cons] at a
       omega
      refine .inl ⟨r2,decide (c=45),g,R,hl,hlt,hg,fun m=>?_⟩
      rw [psL,e]
      dsimp only
      rw [e2]
      dsimp only
      rw [if_pos hc]
     ·refine .inr ⟨_,lps_x7_3 (n:=n) (r11:=g) K1 K2 rfl K4 (by rw [hs];omega) K6 (decide_eq_false hc),fun m=>?_⟩
      rw [psL,e]
      dsimp only
      rw [e2]
      dsimp only
      rw [if_neg hc]
      exact rfl
theorem parts_l(hL:L.length≤999)(h:l <:+L){K:Nat}(hK:l.length<K):
  ∃t,loopG Tryz.prog (tab (n+11)) 0 68 (livesOf 124) 7 lps_C7 (lps_h7 (bs L) neg (po L l) [] 0)=some (.ret,t)∧ResQ L (psL K ([],0) neg l) t:=by
 have hl:=h.length_le
 obtain ⟨ex,t,h1,h2⟩:=loopG_Q (β:=List UInt8 × Bool × Form) (P:= Tryz.prog) (O:=tab (n+11)) (m:=0) (N:=68) (lives:=livesOf 124) (r:=7) (C:=lps_C7) (M:=l.length) (enc:=fun _ b=>lps_h7 (bs L) b.2.1 (po L b.1) b.2.2.1 b.2.2.2)
  (fun k b=>b.1 <:+L∧RdF k b.2.2∧k+b.1.length≤l.length∧psL (K-k) b.2.2 b.2.1 b.1=psL K ([],0) neg l) (fun ex t=>ex=.ret∧ResQ L (psL K ([],0) neg l) t) (l,neg,([],0)) ⟨h,RdF.zero,by show 0+l.length≤l.length;omega,rfl⟩ (by omega)
  (fun k b hk hI=>by
   obtain ⟨i1,i2,i3,i4⟩:=hI
   obtain ⟨b,s,g⟩:=b
   dsimp only at i1 i2 i3 i4 ⊢
   have hK2:K-k=(K-(k+1))+1:=by omega
   rcases lps_rnd (n:=n) (neg:=s) (by omega) i1 i2 (by omega) with ⟨l',s',g',R,j1,j2,j3,j4⟩|⟨t,R,j⟩
   ·refine .inl ⟨(l',s',g'),R,j1.trans i1,j3,by dsimp only;omega,?_⟩
    dsimp only
    rw [←j4,←hK2,i4]
   ·refine .inr ⟨_,_,by simp,R,rfl,?_⟩
    have:=j (K-(k+1))
    rw [←hK2,i4] at this
    exact this)
  (fun b hI=>by
   obtain ⟨i1,i2,i3,i4⟩:=hI
   obtain ⟨b,s,g⟩:=b
   dsimp only at i1 i2 i3 i4 ⊢
   have hK2:K-l.length=(K-(l.length+1))+1:=by omega
   rcases lps_rnd (n:=n) (neg:=s) (by omega) i1 i2 (by omega) with ⟨l',s',g',R,j1,j2,j3,j4⟩|⟨t,R,j⟩
   ·omega
   ·refine ⟨_,_,by simp,R,rfl,?_⟩
    have:=j (K-(l.length+1))
    rw [←hK2,i4] at this
    exact this)
 obtain ⟨rfl,h3⟩:=h2
 exact ⟨t,h1,h3⟩
def parR(L:List UInt8):Except (List UInt8) Form→AV
 | .ok g=>.tup [formV g,.lit (.int .i64 0),.lit (.int .i64 0)]
 | .error r=>.tup [.agg [.sl 4 [],.lit (.bool false),.sl 1 [],.sl 1 []],.lit (.int .i64 (po L r)),.lit (.int .i64 4)]
theorem parse_c(hL:L.length≤999):run (n+11) 124 [.lit (.string (bs L))]=some (parR L (psT L)):=by
 have h0:L <:+L:=List.suffix_refl L
 have K1:=blank_c (n:=n+10) (by omega) h0
 have h1:=skL_suf L
 rw [pB,po_self] at K1
 have K2:=is_c (n:=n+7) (by omega) h1 [45]
 have K3:=is_c (n:=n+7) (by omega) h1 [43,45]
 have hl:=h1.length_le
 unfold psT
 cases e:skL L with
 | nil=>
   rw [e] at K1 K2 K3 h1 hl
   obtain ⟨t,G,R⟩:=parts_l (n:=n) (neg:=false) hL h1 (K:=L.length+1) (by simp)
   dsimp only
   cases e2:psL (L.length+1) ([],0) false [] with
   | error r=>rw [e2] at R;rw [show t=lps_o7a (po L r) from R] at G;exact lps_f4 (n:=n) K1 K2 K3 rfl G
   | ok g=>rw [e2] at R;rw [show t=lps_o7b g from R] at G;exact lps_f5 (n:=n) K1 K2 K3 rfl G
 | cons c r=>
   rw [e] at K1 K2 K3 h1 hl
   obtain ⟨p1,p2⟩:=po_lt h1
   rw [isIn_1] at K2
   rw [isIn_2] at K3
   dsimp only
   rw [List.length_cons] at hl
   by_cases hc:c=43∨c=45
   ·rw [if_pos hc]
    obtain ⟨t,G,R⟩:=parts_l (n:=n) (neg:=decide (c=45)) hL (suf_tl h1) (K:=L.length+1) (by omega)
    rw [←p2] at G
    cases e2:psL (L.length+1) ([],0) (decide (c=45)) r with
    | error r2=>rw [e2] at R;rw [show t=lps_o7a (po L r2) from R] at G;exact lps_f1 (n:=n) K1 K2 K3 (decide_eq_true hc) (po_in (by omega) h1) G
    | ok g=>rw [e2] at R;rw [show t=lps_o7b g from R] at G;exact lps_f2 (n:=n) K1 K2 K3 (decide_eq_true hc) (po_in (by omega) h1) G
   ·rw [if_neg hc]
    rw [decide_eq_false (fun h=>hc (.inr h))] at K2
    obtain ⟨t,G,R⟩:=parts_l (n:=n) (neg:=false) hL h1 (K:=L.length+1) (by rw [List.length_cons];omega)
    cases e2:psL (L.length+1) ([],0) false (c::r) with
    | error r2=>rw [e2] at R;rw [show t=lps_o7a (po L r2) from R] at G;exact lps_f4 (n:=n) K1 K2 K3 (decide_eq_false hc) G
    | ok g=>rw [e2] at R;rw [show t=lps_o7b g from R] at G;exact lps_f5 (n:=n) K1 K2 K3 (decide_eq_false hc) G
end
end
section
open Go.RowKit
end
end Go.Proofs.YtnegdhjdienjlaaGreatDoor
