import Derived.Test.YtnegdhjdienjlaaGreatDoorGQ32
set_option linter.all false
set_option maxHeartbeats 6400000
set_option maxRecDepth 100000
namespace Go.Proofs.YtnegdhjdienjlaaGreatDoor
section
open Go.RowKit
section
variable {str_4 : ByteArray} {a0 : ByteArray} {out_4 : List ByteArray} {n : Nat} {W : List ByteArray}
section
variable(hW:out_4++[str_4]=W)
include hW
theorem fps4_f11{x:ByteArray}{i2_15:Int}{x5:ByteArray}{x7:ByteArray}{r8:Rat}{r9:Int}{r10:Int}(L1:loopG Tryz.prog (tab (n+43)) 0 118 (livesOf 14) 4 fps4_C4 (fps4_h4 a0 [] (⟨#[]⟩:ByteArray) 0)=some (.exit 0,fps4_o4a a0 out_4 str_4))(M2:W.length≤100000000)(C3:¬(W.length:Int)<2)(G4:0<W.length)(E5:W[0]?=some x)(C6:¬(x.size:Int)<2)(C8:¬6<(x.size:Int))(L9:loopG Tryz.prog (tab (n+43)) 0 118 (livesOf 14) 15 fps4_C15 (fps4_h15 a0 W 1 0)=some (.exit 2,fps4_o15a a0 W i2_15))(G10:1<W.length)(E11:W[1]?=some x5)(C12:¬x5=(⟨#[111,110]⟩:ByteArray))(C13:x5=(⟨#[111,102,102]⟩:ByteArray))(C14:2<(W.length:Int))(G15:2<W.length)(E16:W[2]?=some x7)(K17:run (n+42) 39 [.lit (.string x7)]=some (.tup [ratV r8,.lit (.int .i64 r9),.lit (.int .i64 r10)]))(C18:¬r10=0):
  run (n+43) 14 [.lit (.string a0)]=some (.tup [.agg [.lit (.int .i64 0),.lit (.int .i64 0),.lit (.bool false),.sl 1 [],.sl 1 []],.lit (.int .i64 4)]):=by
 have hWl:out_4.length+1=W.length:=by rw [←hW,List.length_append];rfl
 have hWi:(out_4.length:Int)+1=(W.length:Int):=by omega
 have hWm:out_4.map strC++[[.lit (.string str_4)]]=W.map strC:=by rw [←hW,List.map_append];rfl
 have M2_:∀b,b≤10000→roomy (W.length) b=true:=fun b hb=>roomy_s M2 hb
 have C3_:¬W.length<2:=by omega
 obtain ⟨EL5,EG5⟩:=List.getElem?_eq_some_iff.1 E5
 have C6_:¬x.size<2:=by omega
 have C8_:¬6<x.size:=by omega
 obtain ⟨EL11,EG11⟩:=List.getElem?_eq_some_iff.1 E11
 have C12_:(x5.toList==(⟨#[111,110]⟩:ByteArray).toList)=false:=by rw [beq_eq_false_iff_ne];exact fun h=>C12 (ba_inj h)
 have C12_n:(x5.toList !=(⟨#[111,110]⟩:ByteArray).toList)=true:=by rw [bne,C12_];rfl
 have C12_k:(x5.toList==([111,110]:List UInt8))=false:=by rw [show ([111,110]:List UInt8)=(⟨#[111,110]⟩:ByteArray).toList by rw [ba_toList]];exact C12_
 have C13_:(x5.toList==(⟨#[111,102,102]⟩:ByteArray).toList)=true:=by rw [C13];simp
 have C13_n:(x5.toList !=(⟨#[111,102,102]⟩:ByteArray).toList)=false:=by rw [bne,C13_];rfl
 have C13_k:(x5.toList==([111,102,102]:List UInt8))=true:=by rw [show ([111,102,102]:List UInt8)=(⟨#[111,102,102]⟩:ByteArray).toList by rw [ba_toList]];exact C13_
 have C14_:2<W.length:=by omega
 obtain ⟨EL16,EG16⟩:=List.getElem?_eq_some_iff.1 E16
 simp only [ratV] at K17
 have C18_:(r10==0)=false:=by simpa using C18
 have C18_n:(r10 !=0)=true:=by simpa using C18
 unfold run fnP
 simp+decide [hWl,hWi,hWm, Tryz.f14,M2_,C3,C3_,G4,EL5,EG5,E5,C6,C6_,C8,C8_,G10,EL11,EG11,E11,C12_,C12_n,C12_k,C13_,C13_n,C13_k,C14,C14_,G15,EL16,EG16,E16,K17,C18_,C18_n]
 rw [loopX_G (C':=fps4_C4) (e:=(fps4_h4 a0 [] (⟨#[]⟩:ByteArray) 0)) ?_ ?_,L1]
 rotate_left
 ·kernel_rfl
 ·simp+decide [hWl,hWi,hWm,fps4_h4,M2_,C3,C3_,G4,EL5,EG5,E5,C6,C6_,C8,C8_,G10,EL11,EG11,E11,C12_,C12_n,C12_k,C13_,C13_n,C13_k,C14,C14_,G15,EL16,EG16,E16,K17,C18_,C18_n]
 simp+decide [hWl,hWi,hWm,fps4_o4a,M2_,C3,C3_,G4,EL5,EG5,E5,C6,C6_,C8,C8_,G10,EL11,EG11,E11,C12_,C12_n,C12_k,C13_,C13_n,C13_k,C14,C14_,G15,EL16,EG16,E16,K17,C18_,C18_n]
 rw [loopX_G (C':=fps4_C15) (e:=(fps4_h15 a0 W 1 0)) ?_ ?_,L9]
 rotate_left
 ·kernel_rfl
 ·simp+decide [hWl,hWi,hWm,fps4_h15,M2_,C3,C3_,G4,EL5,EG5,E5,C6,C6_,C8,C8_,G10,EL11,EG11,E11,C12_,C12_n,C12_k,C13_,C13_n,C13_k,C14,C14_,G15,EL16,EG16,E16,K17,C18_,C18_n]
 simp+decide [hWl,hWi,hWm,fps4_o15a,M2_,C3,C3_,G4,EL5,EG5,E5,C6,C6_,C8,C8_,G10,EL11,EG11,E11,C12_,C12_n,C12_k,C13_,C13_n,C13_k,C14,C14_,G15,EL16,EG16,E16,K17,C18_,C18_n]
theorem fps4_f12{x:ByteArray}{i2_15:Int}{x5:ByteArray}{x7:ByteArray}{r8:Rat}{r9:Int}{r10:Int}{r11:Bool}(L1:loopG Tryz.prog (tab (n+43)) 0 118 (livesOf 14) 4 fps4_C4 (fps4_h4 a0 [] (⟨#[]⟩:ByteArray) 0)=some (.exit 0,fps4_o4a a0 out_4 str_4))(M2:W.length≤100000000)(C3:¬(W.length:Int)<2)(G4:0<W.length)(E5:W[0]?=some x)(C6:¬(x.size:Int)<2)(C8:¬6<(x.size:Int))(L9:loopG Tryz.prog (tab (n+43)) 0 118 (livesOf 14) 15 fps4_C15 (fps4_h15 a0 W 1 0)=some (.exit 2,fps4_o15a a0 W i2_15))(G10:1<W.length)(E11:W[1]?=some x5)(C12:¬x5=(⟨#[111,110]⟩:ByteArray))(C13:x5=(⟨#[111,102,102]⟩:ByteArray))(C14:2<(W.length:Int))(G15:2<W.length)(E16:W[2]?=some x7)(K17:run (n+42) 39 [.lit (.string x7)]=some (.tup [ratV r8,.lit (.int .i64 r9),.lit (.int .i64 r10)]))(C18:r10=0)(K19:run (n+42) 12 [.agg [.lit (.int .i64 2),.lit (.int .i64 i2_15),.lit (.bool (rawQ r8).s),natA (rawQ r8).l1,natA (rawQ r8).l2]]=some (.lit (.bool r11)))(C20:r11=false):
  run (n+43) 14 [.lit (.string a0)]=some (.tup [.agg [.lit (.int .i64 0),.lit (.int .i64 0),.lit (.bool false),.sl 1 [],.sl 1 []],.lit (.int .i64 4)]):=by
 have hWl:out_4.length+1=W.length:=by rw [←hW,List.length_append];rfl
 have hWi:(out_4.length:Int)+1=(W.length:Int):=by omega
 have hWm:out_4.map strC++[[.lit (.string str_4)]]=W.map strC:=by rw [←hW,List.map_append];rfl
 have M2_:∀b,b≤10000→roomy (W.length) b=true:=fun b hb=>roomy_s M2 hb
 have C3_:¬W.length<2:=by omega
 obtain ⟨EL5,EG5⟩:=List.getElem?_eq_some_iff.1 E5
 have C6_:¬x.size<2:=by omega
 have C8_:¬6<x.size:=by omega
 obtain ⟨EL11,EG11⟩:=List.getElem?_eq_some_iff.1 E11
 have C12_:(x5.toList==(⟨#[111,110]⟩:ByteArray).toList)=false:=by rw [beq_eq_false_iff_ne];exact fun h=>C12 (ba_inj h)
 have C12_n:(x5.toList !=(⟨#[111,110]⟩:ByteArray).toList)=true:=by rw [bne,C12_];rfl
 have C12_k:(x5.toList==([111,110]:List UInt8))=false:=by rw [show ([111,110]:List UInt8)=(⟨#[111,110]⟩:ByteArray).toList by rw [ba_toList]];exact C12_
 have C13_:(x5.toList==(⟨#[111,102,102]⟩:ByteArray).toList)=true:=by rw [C13];simp
 have C13_n:(x5.toList !=(⟨#[111,102,102]⟩:ByteArray).toList)=false:=by rw [bne,C13_];rfl
 have C13_k:(x5.toList==([111,102,102]:List UInt8))=true:=by rw [show ([111,102,102]:List UInt8)=(⟨#[111,102,102]⟩:ByteArray).toList by rw [ba_toList]];exact C13_
 have C14_:2<W.length:=by omega
 obtain ⟨EL16,EG16⟩:=List.getElem?_eq_some_iff.1 E16
 simp only [ratV] at K17
 have C18_:(r10==0)=true:=by rw [C18];simp
 have C18_n:(r10 !=0)=false:=by rw [C18];simp
 rw [C20] at K19
 unfold run fnP
 simp+decide [hWl,hWi,hWm, Tryz.f14,M2_,C3,C3_,G4,EL5,EG5,E5,C6,C6_,C8,C8_,G10,EL11,EG11,E11,C12_,C12_n,C12_k,C13_,C13_n,C13_k,C14,C14_,G15,EL16,EG16,E16,K17,C18_,C18_n,K19,C20]
 rw [loopX_G (C':=fps4_C4) (e:=(fps4_h4 a0 [] (⟨#[]⟩:ByteArray) 0)) ?_ ?_,L1]
 rotate_left
 ·kernel_rfl
 ·simp+decide [hWl,hWi,hWm,fps4_h4,M2_,C3,C3_,G4,EL5,EG5,E5,C6,C6_,C8,C8_,G10,EL11,EG11,E11,C12_,C12_n,C12_k,C13_,C13_n,C13_k,C14,C14_,G15,EL16,EG16,E16,K17,C18_,C18_n,K19,C20]
 simp+decide [hWl,hWi,hWm,fps4_o4a,M2_,C3,C3_,G4,EL5,EG5,E5,C6,C6_,C8,C8_,G10,EL11,EG11,E11,C12_,C12_n,C12_k,C13_,C13_n,C13_k,C14,C14_,G15,EL16,EG16,E16,K17,C18_,C18_n,K19,C20]
 rw [loopX_G (C':=fps4_C15) (e:=(fps4_h15 a0 W 1 0)) ?_ ?_,L9]
 rotate_left
 ·kernel_rfl
 ·simp+decide [hWl,hWi,hWm,fps4_h15,M2_,C3,C3_,G4,EL5,EG5,E5,C6,C6_,C8,C8_,G10,EL11,EG11,E11,C12_,C12_n,C12_k,C13_,C13_n,C13_k,C14,C14_,G15,EL16,EG16,E16,K17,C18_,C18_n,K19,C20]
 simp+decide [hWl,hWi,hWm,fps4_o15a,M2_,C3,C3_,G4,EL5,EG5,E5,C6,C6_,C8,C8_,G10,EL11,EG11,E11,C12_,C12_n,C12_k,C13_,C13_n,C13_k,C14,C14_,G15,EL16,EG16,E16,K17,C18_,C18_n,K19,C20]
theorem fps4_f13{x:ByteArray}{i2_15:Int}{x5:ByteArray}{x7:ByteArray}{r8:Rat}{r9:Int}{r10:Int}{r11:Bool}{r12:ByteArray}(L1:loopG Tryz.prog (tab (n+43)) 0 118 (livesOf 14) 4 fps4_C4 (fps4_h4 a0 [] (⟨#[]⟩:ByteArray) 0)=some (.exit 0,fps4_o4a a0 out_4 str_4))(M2:W.length≤100000000)(C3:¬(W.length:Int)<2)(G4:0<W.length)(E5:W[0]?=some x)(C6:¬(x.size:Int)<2)(C8:¬6<(x.size:Int))(L9:loopG Tryz.prog (tab (n+43)) 0 118 (livesOf 14) 15 fps4_C15 (fps4_h15 a0 W 1 0)=some (.exit 2,fps4_o15a a0 W i2_15))(G10:1<W.length)(E11:W[1]?=some x5)(C12:¬x5=(⟨#[111,110]⟩:ByteArray))(C13:x5=(⟨#[111,102,102]⟩:ByteArray))(C14:2<(W.length:Int))(G15:2<W.length)(E16:W[2]?=some x7)(K17:run (n+42) 39 [.lit (.string x7)]=some (.tup [ratV r8,.lit (.int .i64 r9),.lit (.int .i64 r10)]))(C18:r10=0)(K19:run (n+42) 12 [.agg [.lit (.int .i64 2),.lit (.int .i64 i2_15),.lit (.bool (rawQ r8).s),natA (rawQ r8).l1,natA (rawQ r8).l2]]=some (.lit (.bool r11)))(C20:r11=true)(K21:run (n+42) 10 [.agg [.lit (.int .i64 2),.lit (.int .i64 i2_15),.lit (.bool (rawQ r8).s),natA (rawQ r8).l1,natA (rawQ r8).l2]]=some (.lit (.string r12)))(C22:¬r12=a0):
  run (n+43) 14 [.lit (.string a0)]=some (.tup [.agg [.lit (.int .i64 0),.lit (.int .i64 0),.lit (.bool false),.sl 1 [],.sl 1 []],.lit (.int .i64 4)]):=by
 have hWl:out_4.length+1=W.length:=by rw [←hW,List.length_append];rfl
 have hWi:(out_4.length:Int)+1=(W.length:Int):=by omega
 have hWm:out_4.map strC++[[.lit (.string str_4)]]=W.map strC:=by rw [←hW,List.map_append];rfl
 have M2_:∀b,b≤10000→roomy (W.length) b=true:=fun b hb=>roomy_s M2 hb
 have C3_:¬W.length<2:=by omega
 obtain ⟨EL5,EG5⟩:=List.getElem?_eq_some_iff.1 E5
 have C6_:¬x.size<2:=by omega
 have C8_:¬6<x.size:=by omega
 obtain ⟨EL11,EG11⟩:=List.getElem?_eq_some_iff.1 E11
 have C12_:(x5.toList==(⟨#[111,110]⟩:ByteArray).toList)=false:=by rw [beq_eq_false_iff_ne];exact fun h=>C12 (ba_inj h)
 have C12_n:(x5.toList !=(⟨#[111,110]⟩:ByteArray).toList)=true:=by rw [bne,C12_];rfl
 have C12_k:(x5.toList==([111,110]:List UInt8))=false:=by rw [show ([111,110]:List UInt8)=(⟨#[111,110]⟩:ByteArray).toList by rw [ba_toList]];exact C12_
 have C13_:(x5.toList==(⟨#[111,102,102]⟩:ByteArray).toList)=true:=by rw [C13];simp
 have C13_n:(x5.toList !=(⟨#[111,102,102]⟩:ByteArray).toList)=false:=by rw [bne,C13_];rfl
 have C13_k:(x5.toList==([111,102,102]:List UInt8))=true:=by rw [show ([111,102,102]:List UInt8)=(⟨#[111,102,102]⟩:ByteArray).toList by rw [ba_toList]];exact C13_
 have C14_:2<W.length:=by omega
 obtain ⟨EL16,EG16⟩:=List.getElem?_eq_some_iff.1 E16
 simp only [ratV] at K17
 have C18_:(r10==0)=true:=by rw [C18];simp
 have C18_n:(r10 !=0)=false:=by rw [C18];simp
 have C22_:(r12.toList==a0.toList)=false:=by rw [beq_eq_false_iff_ne];exact fun h=>C22 (ba_inj h)
 have C22_n:(r12.toList !=a0.toList)=true:=by rw [bne,C22_];rfl
 rw [C20] at K19
 unfold run fnP
 simp+decide [hWl,hWi,hWm, Tryz.f14,M2_,C3,C3_,G4,EL5,EG5,E5,C6,C6_,C8,C8_,G10,EL11,EG11,E11,C12_,C12_n,C12_k,C13_,C13_n,C13_k,C14,C14_,G15,EL16,EG16,E16,K17,C18_,C18_n,K19,C20,K21,C22_,C22_n]
 rw [loopX_G (C':=fps4_C4) (e:=(fps4_h4 a0 [] (⟨#[]⟩:ByteArray) 0)) ?_ ?_,L1]
 rotate_left
 ·kernel_rfl
 ·simp+decide [hWl,hWi,hWm,fps4_h4,M2_,C3,C3_,G4,EL5,EG5,E5,C6,C6_,C8,C8_,G10,EL11,EG11,E11,C12_,C12_n,C12_k,C13_,C13_n,C13_k,C14,C14_,G15,EL16,EG16,E16,K17,C18_,C18_n,K19,C20,K21,C22_,C22_n]
 simp+decide [hWl,hWi,hWm,fps4_o4a,M2_,C3,C3_,G4,EL5,EG5,E5,C6,C6_,C8,C8_,G10,EL11,EG11,E11,C12_,C12_n,C12_k,C13_,C13_n,C13_k,C14,C14_,G15,EL16,EG16,E16,K17,C18_,C18_n,K19,C20,K21,C22_,C22_n]
 rw [loopX_G (C':=fps4_C15) (e:=(fps4_h15 a0 W 1 0)) ?_ ?_,L9]
 rotate_left
 ·kernel_rfl
 ·simp+decide [hWl,hWi,hWm,fps4_h15,M2_,C3,C3_,G4,EL5,EG5,E5,C6,C6_,C8,C8_,G10,EL11,EG11,E11,C12_,C12_n,C12_k,C13_,C13_n,C13_k,C14,C14_,G15,EL16,EG16,E16,K17,C18_,C18_n,K19,C20,K21,C22_,C22_n]
 simp+decide [hWl,hWi,hWm,fps4_o15a,M2_,C3,C3_,G4,EL5,EG5,E5,C6,C6_,C8,C8_,G10,EL11,EG11,E11,C12_,C12_n,C12_k,C13_,C13_n,C13_k,C14,C14_,G15,EL16,EG16,E16,K17,C18_,C18_n,K19,C20,K21,C22_,C22_n]
theorem fps4_f14{x:ByteArray}{i2_15:Int}{x5:ByteArray}{x7:ByteArray}{r8:Rat}{r9:Int}{r10:Int}{r11:Bool}{r12:ByteArray}(L1:loopG Tryz.prog (tab (n+43)) 0 118 (livesOf 14) 4 fps4_C4 (fps4_h4 a0 [] (⟨#[]⟩:ByteArray) 0)=some (.exit 0,fps4_o4a a0 out_4 str_4))(M2:W.length≤100000000)(C3:¬(W.length:Int)<2)(G4:0<W.length)(E5:W[0]?=some x)(C6:¬(x.size:Int)<2)(C8:¬6<(x.size:Int))(L9:loopG Tryz.prog (tab (n+43)) 0 118 (livesOf 14) 15 fps4_C15 (fps4_h15 a0 W 1 0)=some (.exit 2,fps4_o15a a0 W i2_15))(G10:1<W.length)(E11:W[1]?=some x5)(C12:¬x5=(⟨#[111,110]⟩:ByteArray))(C13:x5=(⟨#[111,102,102]⟩:ByteArray))(C14:2<(W.length:Int))(G15:2<W.length)(E16:W[2]?=some x7)(K17:run (n+42) 39 [.lit (.string x7)]=some (.tup [ratV r8,.lit (.int .i64 r9),.lit (.int .i64 r10)]))(C18:r10=0)(K19:run (n+42) 12 [.agg [.lit (.int .i64 2),.lit (.int .i64 i2_15),.lit (.bool (rawQ r8).s),natA (rawQ r8).l1,natA (rawQ r8).l2]]=some (.lit (.bool r11)))(C20:r11=true)(K21:run (n+42) 10 [.agg [.lit (.int .i64 2),.lit (.int .i64 i2_15),.lit (.bool (rawQ r8).s),natA (rawQ r8).l1,natA (rawQ r8).l2]]=some (.lit (.string r12)))(C22:r12=a0):
  run (n+43) 14 [.lit (.string a0)]=some (.tup [.agg [.lit (.int .i64 2),.lit (.int .i64 i2_15),.lit (.bool (rawQ r8).s),natA (rawQ r8).l1,natA (rawQ r8).l2],.lit (.int .i64 0)]):=by
 have hWl:out_4.length+1=W.length:=by rw [←hW,List.length_append];rfl
 have hWi:(out_4.length:Int)+1=(W.length:Int):=by omega
 have hWm:out_4.map strC++[[.lit (.string str_4)]]=W.map strC:=by rw [←hW,List.map_append];rfl
 have M2_:∀b,b≤10000→roomy (W.length) b=true:=fun b hb=>roomy_s M2 hb
 have C3_:¬W.length<2:=by omega
 obtain ⟨EL5,EG5⟩:=List.getElem?_eq_some_iff.1 E5
 have C6_:¬x.size<2:=by omega
 have C8_:¬6<x.size:=by omega
 obtain ⟨EL11,EG11⟩:=List.getElem?_eq_some_iff.1 E11
 have C12_:(x5.toList==(⟨#[111,110]⟩:ByteArray).toList)=false:=by rw [beq_eq_false_iff_ne];exact fun h=>C12 (ba_inj h)
 have C12_n:(x5.toList !=(⟨#[111,110]⟩:ByteArray).toList)=true:=by rw [bne,C12_];rfl
 have C12_k:(x5.toList==([111,110]:List UInt8))=false:=by rw [show ([111,110]:List UInt8)=(⟨#[111,110]⟩:ByteArray).toList by rw [ba_toList]];exact C12_
 have C13_:(x5.toList==(⟨#[111,102,102]⟩:ByteArray).toList)=true:=by rw [C13];simp
 have C13_n:(x5.toList !=(⟨#[111,102,102]⟩:ByteArray).toList)=false:=by rw [bne,C13_];rfl
 have C13_k:(x5.toList==([111,102,102]:List UInt8))=true:=by rw [show ([111,102,102]:List UInt8)=(⟨#[111,102,102]⟩:ByteArray).toList by rw [ba_toList]];exact C13_
 have C14_:2<W.length:=by omega
 obtain ⟨EL16,EG16⟩:=List.getElem?_eq_some_iff.1 E16
 simp only [ratV] at K17
 have C18_:(r10==0)=true:=by rw [C18];simp
 have C18_n:(r10 !=0)=false:=by rw [C18];simp
 have C22_:(r12.toList==a0.toList)=true:=by rw [C22];simp
 have C22_n:(r12.toList !=a0.toList)=false:=by rw [bne,C22_];rfl
 rw [C20] at K19
 unfold run fnP
 simp+decide [hWl,hWi,hWm, Tryz.f14,M2_,C3,C3_,G4,EL5,EG5,E5,C6,C6_,C8,C8_,G10,EL11,EG11,E11,C12_,C12_n,C12_k,C13_,C13_n,C13_k,C14,C14_,G15,EL16,EG16,E16,K17,C18_,C18_n,K19,C20,K21,C22_,C22_n]
 rw [loopX_G (C':=fps4_C4) (e:=(fps4_h4 a0 [] (⟨#[]⟩:ByteArray) 0)) ?_ ?_,L1]
 rotate_left
 ·kernel_rfl
 ·simp+decide [hWl,hWi,hWm,fps4_h4,M2_,C3,C3_,G4,EL5,EG5,E5,C6,C6_,C8,C8_,G10,EL11,EG11,E11,C12_,C12_n,C12_k,C13_,C13_n,C13_k,C14,C14_,G15,EL16,EG16,E16,K17,C18_,C18_n,K19,C20,K21,C22_,C22_n]
 simp+decide [hWl,hWi,hWm,fps4_o4a,M2_,C3,C3_,G4,EL5,EG5,E5,C6,C6_,C8,C8_,G10,EL11,EG11,E11,C12_,C12_n,C12_k,C13_,C13_n,C13_k,C14,C14_,G15,EL16,EG16,E16,K17,C18_,C18_n,K19,C20,K21,C22_,C22_n]
 rw [loopX_G (C':=fps4_C15) (e:=(fps4_h15 a0 W 1 0)) ?_ ?_,L9]
 rotate_left
 ·kernel_rfl
 ·simp+decide [hWl,hWi,hWm,fps4_h15,M2_,C3,C3_,G4,EL5,EG5,E5,C6,C6_,C8,C8_,G10,EL11,EG11,E11,C12_,C12_n,C12_k,C13_,C13_n,C13_k,C14,C14_,G15,EL16,EG16,E16,K17,C18_,C18_n,K19,C20,K21,C22_,C22_n]
 simp+decide [hWl,hWi,hWm,fps4_o15a,M2_,C3,C3_,G4,EL5,EG5,E5,C6,C6_,C8,C8_,G10,EL11,EG11,E11,C12_,C12_n,C12_k,C13_,C13_n,C13_k,C14,C14_,G15,EL16,EG16,E16,K17,C18_,C18_n,K19,C20,K21,C22_,C22_n]
theorem fps4_f15{x:ByteArray}{i2_15:Int}{x5:ByteArray}{r13:Bool}(L1:loopG Tryz.prog (tab (n+43)) 0 118 (livesOf 14) 4 fps4_C4 (fps4_h4 a0 [] (⟨#[]⟩:ByteArray) 0)=some (.exit 0,fps4_o4a a0 out_4 str_4))(M2:W.length≤100000000)(C3:¬(W.length:Int)<2)(G4:0<W.length)(E5:W[0]?=some x)(C6:¬(x.size:Int)<2)(C8:¬6<(x.size:Int))(L9:loopG Tryz.prog (tab (n+43)) 0 118 (livesOf 14) 15 fps4_C15 (fps4_h15 a0 W 1 0)=some (.exit 2,fps4_o15a a0 W i2_15))(G10:1<W.length)(E11:W[1]?=some x5)(C12:¬x5=(⟨#[111,110]⟩:ByteArray))(C13:x5=(⟨#[111,102,102]⟩:ByteArray))(C14:¬2<(W.length:Int))(K15:run (n+42) 12 [.agg [.lit (.int .i64 2),.lit (.int .i64 i2_15),.lit (.bool false),.sl 1 [],.sl 1 []]]=some (.lit (.bool r13)))(C16:r13=false):
  run (n+43) 14 [.lit (.string a0)]=some (.tup [.agg [.lit (.int .i64 0),.lit (.int .i64 0),.lit (.bool false),.sl 1 [],.sl 1 []],.lit (.int .i64 4)]):=by
 have hWl:out_4.length+1=W.length:=by rw [←hW,List.length_append];rfl
 have hWi:(out_4.length:Int)+1=(W.length:Int):=by omega
 have hWm:out_4.map strC++[[.lit (.string str_4)]]=W.map strC:=by rw [←hW,List.map_append];rfl
 have M2_:∀b,b≤10000→roomy (W.length) b=true:=fun b hb=>roomy_s M2 hb
 have C3_:¬W.length<2:=by omega
 obtain ⟨EL5,EG5⟩:=List.getElem?_eq_some_iff.1 E5
 have C6_:¬x.size<2:=by omega
 have C8_:¬6<x.size:=by omega
 obtain ⟨EL11,EG11⟩:=List.getElem?_eq_some_iff.1 E11
 have C12_:(x5.toList==(⟨#[111,110]⟩:ByteArray).toList)=false:=by rw [beq_eq_false_iff_ne];exact fun h=>C12 (ba_inj h)
 have C12_n:(x5.toList !=(⟨#[111,110]⟩:ByteArray).toList)=true:=by rw [bne,C12_];rfl
 have C12_k:(x5.toList==([111,110]:List UInt8))=false:=by rw [show ([111,110]:List UInt8)=(⟨#[111,110]⟩:ByteArray).toList by rw [ba_toList]];exact C12_
 have C13_:(x5.toList==(⟨#[111,102,102]⟩:ByteArray).toList)=true:=by rw [C13];simp
 have C13_n:(x5.toList !=(⟨#[111,102,102]⟩:ByteArray).toList)=false:=by rw [bne,C13_];rfl
 have C13_k:(x5.toList==([111,102,102]:List UInt8))=true:=by rw [show ([111,102,102]:List UInt8)=(⟨#[111,102,102]⟩:ByteArray).toList by rw [ba_toList]];exact C13_
 have C14_:¬2<W.length:=by omega
 rw [C16] at K15
 unfold run fnP
 simp+decide [hWl,hWi,hWm, Tryz.f14,M2_,C3,C3_,G4,EL5,EG5,E5,C6,C6_,C8,C8_,G10,EL11,EG11,E11,C12_,C12_n,C12_k,C13_,C13_n,C13_k,C14,C14_,K15,C16]
 rw [loopX_G (C':=fps4_C4) (e:=(fps4_h4 a0 [] (⟨#[]⟩:ByteArray) 0)) ?_ ?_,L1]
 rotate_left
 ·kernel_rfl
 ·simp+decide [hWl,hWi,hWm,fps4_h4,M2_,C3,C3_,G4,EL5,EG5,E5,C6,C6_,C8,C8_,G10,EL11,EG11,E11,C12_,C12_n,C12_k,C13_,C13_n,C13_k,C14,C14_,K15,C16]
 simp+decide [hWl,hWi,hWm,fps4_o4a,M2_,C3,C3_,G4,EL5,EG5,E5,C6,C6_,C8,C8_,G10,EL11,EG11,E11,C12_,C12_n,C12_k,C13_,C13_n,C13_k,C14,C14_,K15,C16]
 rw [loopX_G (C':=fps4_C15) (e:=(fps4_h15 a0 W 1 0)) ?_ ?_,L9]
 rotate_left
 ·kernel_rfl
 ·simp+decide [hWl,hWi,hWm,fps4_h15,M2_,C3,C3_,G4,EL5,EG5,E5,C6,C6_,C8,C8_,G10,EL11,EG11,E11,C12_,C12_n,C12_k,C13_,C13_n,C13_k,C14,C14_,K15,C16]
 simp+decide [hWl,hWi,hWm,fps4_o15a,M2_,C3,C3_,G4,EL5,EG5,E5,C6,C6_,C8,C8_,G10,EL11,EG11,E11,C12_,C12_n,C12_k,C13_,C13_n,C13_k,C14,C14_,K15,C16]
theorem fps4_f16{x:ByteArray}{i2_15:Int}{x5:ByteArray}{r13:Bool}{r14:ByteArray}(L1:loopG Tryz.prog (tab (n+43)) 0 118 (livesOf 14) 4 fps4_C4 (fps4_h4 a0 [] (⟨#[]⟩:ByteArray) 0)=some (.exit 0,fps4_o4a a0 out_4 str_4))(M2:W.length≤100000000)(C3:¬(W.length:Int)<2)(G4:0<W.length)(E5:W[0]?=some x)(C6:¬(x.size:Int)<2)(C8:¬6<(x.size:Int))(L9:loopG Tryz.prog (tab (n+43)) 0 118 (livesOf 14) 15 fps4_C15 (fps4_h15 a0 W 1 0)=some (.exit 2,fps4_o15a a0 W i2_15))(G10:1<W.length)(E11:W[1]?=some x5)(C12:¬x5=(⟨#[111,110]⟩:ByteArray))(C13:x5=(⟨#[111,102,102]⟩:ByteArray))(C14:¬2<(W.length:Int))(K15:run (n+42) 12 [.agg [.lit (.int .i64 2),.lit (.int .i64 i2_15),.lit (.bool false),.sl 1 [],.sl 1 []]]=some (.lit (.bool r13)))(C16:r13=true)(K17:run (n+42) 10 [.agg [.lit (.int .i64 2),.lit (.int .i64 i2_15),.lit (.bool false),.sl 1 [],.sl 1 []]]=some (.lit (.string r14)))(C18:¬r14=a0):
  run (n+43) 14 [.lit (.string a0)]=some (.tup [.agg [.lit (.int .i64 0),.lit (.int .i64 0),.lit (.bool false),.sl 1 [],.sl 1 []],.lit (.int .i64 4)]):=by
 have hWl:out_4.length+1=W.length:=by rw [←hW,List.length_append];rfl
 have hWi:(out_4.length:Int)+1=(W.length:Int):=by omega
 have hWm:out_4.map strC++[[.lit (.string str_4)]]=W.map strC:=by rw [←hW,List.map_append];rfl
 have M2_:∀b,b≤10000→roomy (W.length) b=true:=fun b hb=>roomy_s M2 hb
 have C3_:¬W.length<2:=by omega
 obtain ⟨EL5,EG5⟩:=List.getElem?_eq_some_iff.1 E5
 have C6_:¬x.size<2:=by omega
 have C8_:¬6<x.size:=by omega
 obtain ⟨EL11,EG11⟩:=List.getElem?_eq_some_iff.1 E11
 have C12_:(x5.toList==(⟨#[111,110]⟩:ByteArray).toList)=false:=by rw [beq_eq_false_iff_ne];exact fun h=>C12 (ba_inj h)
 have C12_n:(x5.toList !=(⟨#[111,110]⟩:ByteArray).toList)=true:=by rw [bne,C12_];rfl
 have C12_k:(x5.toList==([111,110]:List UInt8))=false:=by rw [show ([111,110]:List UInt8)=(⟨#[111,110]⟩:ByteArray).toList by rw [ba_toList]];exact C12_
 have C13_:(x5.toList==(⟨#[111,102,102]⟩:ByteArray).toList)=true:=by rw [C13];simp
 have C13_n:(x5.toList !=(⟨#[111,102,102]⟩:ByteArray).toList)=false:=by rw [bne,C13_];rfl
 have C13_k:(x5.toList==([111,102,102]:List UInt8))=true:=by rw [show ([111,102,102]:List UInt8)=(⟨#[111,102,102]⟩:ByteArray).toList by rw [ba_toList]];exact C13_
 have C14_:¬2<W.length:=by omega
 have C18_:(r14.toList==a0.toList)=false:=by rw [beq_eq_false_iff_ne];exact fun h=>C18 (ba_inj h)
 have C18_n:(r14.toList !=a0.toList)=true:=by rw [bne,C18_];rfl
 rw [C16] at K15
 unfold run fnP
 simp+decide [hWl,hWi,hWm, Tryz.f14,M2_,C3,C3_,G4,EL5,EG5,E5,C6,C6_,C8,C8_,G10,EL11,EG11,E11,C12_,C12_n,C12_k,C13_,C13_n,C13_k,C14,C14_,K15,C16,K17,C18_,C18_n]
 rw [loopX_G (C':=fps4_C4) (e:=(fps4_h4 a0 [] (⟨#[]⟩:ByteArray) 0)) ?_ ?_,L1]
 rotate_left
 ·kernel_rfl
 ·simp+decide [hWl,hWi,hWm,fps4_h4,M2_,C3,C3_,G4,EL5,EG5,E5,C6,C6_,C8,C8_,G10,EL11,EG11,E11,C12_,C12_n,C12_k,C13_,C13_n,C13_k,C14,C14_,K15,C16,K17,C18_,C18_n]
 simp+decide [hWl,hWi,hWm,fps4_o4a,M2_,C3,C3_,G4,EL5,EG5,E5,C6,C6_,C8,C8_,G10,EL11,EG11,E11,C12_,C12_n,C12_k,C13_,C13_n,C13_k,C14,C14_,K15,C16,K17,C18_,C18_n]
 rw [loopX_G (C':=fps4_C15) (e:=(fps4_h15 a0 W 1 0)) ?_ ?_,L9]
 rotate_left
 ·kernel_rfl
 ·simp+decide [hWl,hWi,hWm,fps4_h15,M2_,C3,C3_,G4,EL5,EG5,E5,C6,C6_,C8,C8_,G10,EL11,EG11,E11,C12_,C12_n,C12_k,C13_,C13_n,C13_k,C14,C14_,K15,C16,K17,C18_,C18_n]
 simp+decide [hWl,hWi,hWm,fps4_o15a,M2_,C3,C3_,G4,EL5,EG5,E5,C6,C6_,C8,C8_,G10,EL11,EG11,E11,C12_,C12_n,C12_k,C13_,C13_n,C13_k,C14,C14_,K15,C16,K17,C18_,C18_n]
theorem fps4_f17{x:ByteArray}{i2_15:Int}{x5:ByteArray}{r13:Bool}{r14:ByteArray}(L1:loopG Tryz.prog (tab (n+43)) 0 118 (livesOf 14) 4 fps4_C4 (fps4_h4 a0 [] (⟨#[]⟩:ByteArray) 0)=some (.exit 0,fps4_o4a a0 out_4 str_4))(M2:W.length≤100000000)(C3:¬(W.length:Int)<2)(G4:0<W.length)(E5:W[0]?=some x)(C6:¬(x.size:Int)<2)(C8:¬6<(x.size:Int))(L9:loopG Tryz.prog (tab (n+43)) 0 118 (livesOf 14) 15 fps4_C15 (fps4_h15 a0 W 1 0)=some (.exit 2,fps4_o15a a0 W i2_15))(G10:1<W.length)(E11:W[1]?=some x5)(C12:¬x5=(⟨#[111,110]⟩:ByteArray))(C13:x5=(⟨#[111,102,102]⟩:ByteArray))(C14:¬2<(W.length:Int))(K15:run (n+42) 12 [.agg [.lit (.int .i64 2),.lit (.int .i64 i2_15),.lit (.bool false),.sl 1 [],.sl 1 []]]=some (.lit (.bool r13)))(C16:r13=true)(K17:run (n+42) 10 [.agg [.lit (.int .i64 2),.lit (.int .i64 i2_15),.lit (.bool false),.sl 1 [],.sl 1 []]]=some (.lit (.string r14)))(C18:r14=a0):
  run (n+43) 14 [.lit (.string a0)]=some (.tup [.agg [.lit (.int .i64 2),.lit (.int .i64 i2_15),.lit (.bool false),.sl 1 [],.sl 1 []],.lit (.int .i64 0)]):=by
 have hWl:out_4.length+1=W.length:=by rw [←hW,List.length_append];rfl
 have hWi:(out_4.length:Int)+1=(W.length:Int):=by omega
 have hWm:out_4.map strC++[[.lit (.string str_4)]]=W.map strC:=by rw [←hW,List.map_append];rfl
 have M2_:∀b,b≤10000→roomy (W.length) b=true:=fun b hb=>roomy_s M2 hb
 have C3_:¬W.length<2:=by omega
 obtain ⟨EL5,EG5⟩:=List.getElem?_eq_some_iff.1 E5
 have C6_:¬x.size<2:=by omega
 have C8_:¬6<x.size:=by omega
 obtain ⟨EL11,EG11⟩:=List.getElem?_eq_some_iff.1 E11
 have C12_:(x5.toList==(⟨#[111,110]⟩:ByteArray).toList)=false:=by rw [beq_eq_false_iff_ne];exact fun h=>C12 (ba_inj h)
 have C12_n:(x5.toList !=(⟨#[111,110]⟩:ByteArray).toList)=true:=by rw [bne,C12_];rfl
 have C12_k:(x5.toList==([111,110]:List UInt8))=false:=by rw [show ([111,110]:List UInt8)=(⟨#[111,110]⟩:ByteArray).toList by rw [ba_toList]];exact C12_
 have C13_:(x5.toList==(⟨#[111,102,102]⟩:ByteArray).toList)=true:=by rw [C13];simp
 have C13_n:(x5.toList !=(⟨#[111,102,102]⟩:ByteArray).toList)=false:=by rw [bne,C13_];rfl
 have C13_k:(x5.toList==([111,102,102]:List UInt8))=true:=by rw [show ([111,102,102]:List UInt8)=(⟨#[111,102,102]⟩:ByteArray).toList by rw [ba_toList]];exact C13_
 have C14_:¬2<W.length:=by omega
 have C18_:(r14.toList==a0.toList)=true:=by rw [C18];simp
 have C18_n:(r14.toList !=a0.toList)=false:=by rw [bne,C18_];rfl
 rw [C16] at K15
 unfold run fnP
 simp+decide [hWl,hWi,hWm, Tryz.f14,M2_,C3,C3_,G4,EL5,EG5,E5,C6,C6_,C8,C8_,G10,EL11,EG11,E11,C12_,C12_n,C12_k,C13_,C13_n,C13_k,C14,C14_,K15,C16,K17,C18_,C18_n]
 rw [loopX_G (C':=fps4_C4) (e:=(fps4_h4 a0 [] (⟨#[]⟩:ByteArray) 0)) ?_ ?_,L1]
 rotate_left
 ·kernel_rfl
 ·simp+decide [hWl,hWi,hWm,fps4_h4,M2_,C3,C3_,G4,EL5,EG5,E5,C6,C6_,C8,C8_,G10,EL11,EG11,E11,C12_,C12_n,C12_k,C13_,C13_n,C13_k,C14,C14_,K15,C16,K17,C18_,C18_n]
 simp+decide [hWl,hWi,hWm,fps4_o4a,M2_,C3,C3_,G4,EL5,EG5,E5,C6,C6_,C8,C8_,G10,EL11,EG11,E11,C12_,C12_n,C12_k,C13_,C13_n,C13_k,C14,C14_,K15,C16,K17,C18_,C18_n]
 rw [loopX_G (C':=fps4_C15) (e:=(fps4_h15 a0 W 1 0)) ?_ ?_,L9]
 rotate_left
 ·kernel_rfl
 ·simp+decide [hWl,hWi,hWm,fps4_h15,M2_,C3,C3_,G4,EL5,EG5,E5,C6,C6_,C8,C8_,G10,EL11,EG11,E11,C12_,C12_n,C12_k,C13_,C13_n,C13_k,C14,C14_,K15,C16,K17,C18_,C18_n]
 simp+decide [hWl,hWi,hWm,fps4_o15a,M2_,C3,C3_,G4,EL5,EG5,E5,C6,C6_,C8,C8_,G10,EL11,EG11,E11,C12_,C12_n,C12_k,C13_,C13_n,C13_k,C14,C14_,K15,C16,K17,C18_,C18_n]
end
end
end
end Go.Proofs.YtnegdhjdienjlaaGreatDoor
