import Derived.Test.YtnegdhjdienjlaaGreatDoorGQ32
set_option linter.all false
set_option maxHeartbeats 6400000
set_option maxRecDepth 100000
namespace Go.Proofs.YtnegdhjdienjlaaGreatDoor
section
open Go.RowKit
section
variable {str_4 : ByteArray} {a0 : ByteArray} {out_4 : List ByteArray} {n : Nat} {W : List ByteArray}
section
variable(hW:out_4++[str_4]=W)
include hW
theorem fps4_f18{x:ByteArray}{i2_15:Int}{x5:ByteArray}{x8:ByteArray}{r15:Rat}{r16:Int}{r17:Int}(L1:loopG Tryz.prog (tab (n+43)) 0 118 (livesOf 14) 4 fps4_C4 (fps4_h4 a0 [] (⟨#[]⟩:ByteArray) 0)=some (.exit 0,fps4_o4a a0 out_4 str_4))(M2:W.length≤100000000)(C3:¬(W.length:Int)<2)(G4:0<W.length)(E5:W[0]?=some x)(C6:¬(x.size:Int)<2)(C8:¬6<(x.size:Int))(L9:loopG Tryz.prog (tab (n+43)) 0 118 (livesOf 14) 15 fps4_C15 (fps4_h15 a0 W 1 0)=some (.exit 2,fps4_o15a a0 W i2_15))(G10:1<W.length)(E11:W[1]?=some x5)(C12:¬x5=(⟨#[111,110]⟩:ByteArray))(C13:¬x5=(⟨#[111,102,102]⟩:ByteArray))(C14:x5=(⟨#[62,61]⟩:ByteArray))(C15:2<(W.length:Int))(G16:2<W.length)(E17:W[2]?=some x8)(K18:run (n+42) 39 [.lit (.string x8)]=some (.tup [ratV r15,.lit (.int .i64 r16),.lit (.int .i64 r17)]))(C19:¬r17=0):
  run (n+43) 14 [.lit (.string a0)]=some (.tup [.agg [.lit (.int .i64 0),.lit (.int .i64 0),.lit (.bool false),.sl 1 [],.sl 1 []],.lit (.int .i64 4)]):=by
 have hWl:out_4.length+1=W.length:=by rw [←hW,List.length_append];rfl
 have hWi:(out_4.length:Int)+1=(W.length:Int):=by omega
 have hWm:out_4.map strC++[[.lit (.string str_4)]]=W.map strC:=by rw [←hW,List.map_append];rfl
 have M2_:∀b,b≤10000→roomy (W.length) b=true:=fun b hb=>roomy_s M2 hb
 have C3_:¬W.length<2:=by omega
 obtain ⟨EL5,EG5⟩:=List.getElem?_eq_some_iff.1 E5
 have C6_:¬x.size<2:=by omega
 have C8_:¬6<x.size:=by omega
 obtain ⟨EL11,EG11⟩:=List.getElem?_eq_some_iff.1 E11
 have C12_:(x5.toList==(⟨#[111,110]⟩:ByteArray).toList)=false:=by rw [beq_eq_false_iff_ne];exact fun h=>C12 (ba_inj h)
 have C12_n:(x5.toList !=(⟨#[111,110]⟩:ByteArray).toList)=true:=by rw [bne,C12_];rfl
 have C12_k:(x5.toList==([111,110]:List UInt8))=false:=by rw [show ([111,110]:List UInt8)=(⟨#[111,110]⟩:ByteArray).toList by rw [ba_toList]];exact C12_
 have C13_:(x5.toList==(⟨#[111,102,102]⟩:ByteArray).toList)=false:=by rw [beq_eq_false_iff_ne];exact fun h=>C13 (ba_inj h)
 have C13_n:(x5.toList !=(⟨#[111,102,102]⟩:ByteArray).toList)=true:=by rw [bne,C13_];rfl
 have C13_k:(x5.toList==([111,102,102]:List UInt8))=false:=by rw [show ([111,102,102]:List UInt8)=(⟨#[111,102,102]⟩:ByteArray).toList by rw [ba_toList]];exact C13_
 have C14_:(x5.toList==(⟨#[62,61]⟩:ByteArray).toList)=true:=by rw [C14];simp
 have C14_n:(x5.toList !=(⟨#[62,61]⟩:ByteArray).toList)=false:=by rw [bne,C14_];rfl
 have C14_k:(x5.toList==([62,61]:List UInt8))=true:=by rw [show ([62,61]:List UInt8)=(⟨#[62,61]⟩:ByteArray).toList by rw [ba_toList]];exact C14_
 have C15_:2<W.length:=by omega
 obtain ⟨EL17,EG17⟩:=List.getElem?_eq_some_iff.1 E17
 simp only [ratV] at K18
 have C19_:(r17==0)=false:=by simpa using C19
 have C19_n:(r17 !=0)=true:=by simpa using C19
 unfold run fnP
 simp+decide [hWl,hWi,hWm, Tryz.f14,M2_,C3,C3_,G4,EL5,EG5,E5,C6,C6_,C8,C8_,G10,EL11,EG11,E11,C12_,C12_n,C12_k,C13_,C13_n,C13_k,C14_,C14_n,C14_k,C15,C15_,G16,EL17,EG17,E17,K18,C19_,C19_n]
 rw [loopX_G (C':=fps4_C4) (e:=(fps4_h4 a0 [] (⟨#[]⟩:ByteArray) 0)) ?_ ?_,L1]
 rotate_left
 ·kernel_rfl
 ·simp+decide [hWl,hWi,hWm,fps4_h4,M2_,C3,C3_,G4,EL5,EG5,E5,C6,C6_,C8,C8_,G10,EL11,EG11,E11,C12_,C12_n,C12_k,C13_,C13_n,C13_k,C14_,C14_n,C14_k,C15,C15_,G16,EL17,EG17,E17,K18,C19_,C19_n]
 simp+decide [hWl,hWi,hWm,fps4_o4a,M2_,C3,C3_,G4,EL5,EG5,E5,C6,C6_,C8,C8_,G10,EL11,EG11,E11,C12_,C12_n,C12_k,C13_,C13_n,C13_k,C14_,C14_n,C14_k,C15,C15_,G16,EL17,EG17,E17,K18,C19_,C19_n]
 rw [loopX_G (C':=fps4_C15) (e:=(fps4_h15 a0 W 1 0)) ?_ ?_,L9]
 rotate_left
 ·kernel_rfl
 ·simp+decide [hWl,hWi,hWm,fps4_h15,M2_,C3,C3_,G4,EL5,EG5,E5,C6,C6_,C8,C8_,G10,EL11,EG11,E11,C12_,C12_n,C12_k,C13_,C13_n,C13_k,C14_,C14_n,C14_k,C15,C15_,G16,EL17,EG17,E17,K18,C19_,C19_n]
 simp+decide [hWl,hWi,hWm,fps4_o15a,M2_,C3,C3_,G4,EL5,EG5,E5,C6,C6_,C8,C8_,G10,EL11,EG11,E11,C12_,C12_n,C12_k,C13_,C13_n,C13_k,C14_,C14_n,C14_k,C15,C15_,G16,EL17,EG17,E17,K18,C19_,C19_n]
theorem fps4_f19{x:ByteArray}{i2_15:Int}{x5:ByteArray}{x8:ByteArray}{r15:Rat}{r16:Int}{r17:Int}{r18:Bool}(L1:loopG Tryz.prog (tab (n+43)) 0 118 (livesOf 14) 4 fps4_C4 (fps4_h4 a0 [] (⟨#[]⟩:ByteArray) 0)=some (.exit 0,fps4_o4a a0 out_4 str_4))(M2:W.length≤100000000)(C3:¬(W.length:Int)<2)(G4:0<W.length)(E5:W[0]?=some x)(C6:¬(x.size:Int)<2)(C8:¬6<(x.size:Int))(L9:loopG Tryz.prog (tab (n+43)) 0 118 (livesOf 14) 15 fps4_C15 (fps4_h15 a0 W 1 0)=some (.exit 2,fps4_o15a a0 W i2_15))(G10:1<W.length)(E11:W[1]?=some x5)(C12:¬x5=(⟨#[111,110]⟩:ByteArray))(C13:¬x5=(⟨#[111,102,102]⟩:ByteArray))(C14:x5=(⟨#[62,61]⟩:ByteArray))(C15:2<(W.length:Int))(G16:2<W.length)(E17:W[2]?=some x8)(K18:run (n+42) 39 [.lit (.string x8)]=some (.tup [ratV r15,.lit (.int .i64 r16),.lit (.int .i64 r17)]))(C19:r17=0)(K20:run (n+42) 12 [.agg [.lit (.int .i64 3),.lit (.int .i64 i2_15),.lit (.bool (rawQ r15).s),natA (rawQ r15).l1,natA (rawQ r15).l2]]=some (.lit (.bool r18)))(C21:r18=false):
  run (n+43) 14 [.lit (.string a0)]=some (.tup [.agg [.lit (.int .i64 0),.lit (.int .i64 0),.lit (.bool false),.sl 1 [],.sl 1 []],.lit (.int .i64 4)]):=by
 have hWl:out_4.length+1=W.length:=by rw [←hW,List.length_append];rfl
 have hWi:(out_4.length:Int)+1=(W.length:Int):=by omega
 have hWm:out_4.map strC++[[.lit (.string str_4)]]=W.map strC:=by rw [←hW,List.map_append];rfl
 have M2_:∀b,b≤10000→roomy (W.length) b=true:=fun b hb=>roomy_s M2 hb
 have C3_:¬W.length<2:=by omega
 obtain ⟨EL5,EG5⟩:=List.getElem?_eq_some_iff.1 E5
 have C6_:¬x.size<2:=by omega
 have C8_:¬6<x.size:=by omega
 obtain ⟨EL11,EG11⟩:=List.getElem?_eq_some_iff.1 E11
 have C12_:(x5.toList==(⟨#[111,110]⟩:ByteArray).toList)=false:=by rw [beq_eq_false_iff_ne];exact fun h=>C12 (ba_inj h)
 have C12_n:(x5.toList !=(⟨#[111,110]⟩:ByteArray).toList)=true:=by rw [bne,C12_];rfl
 have C12_k:(x5.toList==([111,110]:List UInt8))=false:=by rw [show ([111,110]:List UInt8)=(⟨#[111,110]⟩:ByteArray).toList by rw [ba_toList]];exact C12_
 have C13_:(x5.toList==(⟨#[111,102,102]⟩:ByteArray).toList)=false:=by rw [beq_eq_false_iff_ne];exact fun h=>C13 (ba_inj h)
 have C13_n:(x5.toList !=(⟨#[111,102,102]⟩:ByteArray).toList)=true:=by rw [bne,C13_];rfl
 have C13_k:(x5.toList==([111,102,102]:List UInt8))=false:=by rw [show ([111,102,102]:List UInt8)=(⟨#[111,102,102]⟩:ByteArray).toList by rw [ba_toList]];exact C13_
 have C14_:(x5.toList==(⟨#[62,61]⟩:ByteArray).toList)=true:=by rw [C14];simp
 have C14_n:(x5.toList !=(⟨#[62,61]⟩:ByteArray).toList)=false:=by rw [bne,C14_];rfl
 have C14_k:(x5.toList==([62,61]:List UInt8))=true:=by rw [show ([62,61]:List UInt8)=(⟨#[62,61]⟩:ByteArray).toList by rw [ba_toList]];exact C14_
 have C15_:2<W.length:=by omega
 obtain ⟨EL17,EG17⟩:=List.getElem?_eq_some_iff.1 E17
 simp only [ratV] at K18
 have C19_:(r17==0)=true:=by rw [C19];simp
 have C19_n:(r17 !=0)=false:=by rw [C19];simp
 rw [C21] at K20
 unfold run fnP
 simp+decide [hWl,hWi,hWm, Tryz.f14,M2_,C3,C3_,G4,EL5,EG5,E5,C6,C6_,C8,C8_,G10,EL11,EG11,E11,C12_,C12_n,C12_k,C13_,C13_n,C13_k,C14_,C14_n,C14_k,C15,C15_,G16,EL17,EG17,E17,K18,C19_,C19_n,K20,C21]
 rw [loopX_G (C':=fps4_C4) (e:=(fps4_h4 a0 [] (⟨#[]⟩:ByteArray) 0)) ?_ ?_,L1]
 rotate_left
 ·kernel_rfl
 ·simp+decide [hWl,hWi,hWm,fps4_h4,M2_,C3,C3_,G4,EL5,EG5,E5,C6,C6_,C8,C8_,G10,EL11,EG11,E11,C12_,C12_n,C12_k,C13_,C13_n,C13_k,C14_,C14_n,C14_k,C15,C15_,G16,EL17,EG17,E17,K18,C19_,C19_n,K20,C21]
 simp+decide [hWl,hWi,hWm,fps4_o4a,M2_,C3,C3_,G4,EL5,EG5,E5,C6,C6_,C8,C8_,G10,EL11,EG11,E11,C12_,C12_n,C12_k,C13_,C13_n,C13_k,C14_,C14_n,C14_k,C15,C15_,G16,EL17,EG17,E17,K18,C19_,C19_n,K20,C21]
 rw [loopX_G (C':=fps4_C15) (e:=(fps4_h15 a0 W 1 0)) ?_ ?_,L9]
 rotate_left
 ·kernel_rfl
 ·simp+decide [hWl,hWi,hWm,fps4_h15,M2_,C3,C3_,G4,EL5,EG5,E5,C6,C6_,C8,C8_,G10,EL11,EG11,E11,C12_,C12_n,C12_k,C13_,C13_n,C13_k,C14_,C14_n,C14_k,C15,C15_,G16,EL17,EG17,E17,K18,C19_,C19_n,K20,C21]
 simp+decide [hWl,hWi,hWm,fps4_o15a,M2_,C3,C3_,G4,EL5,EG5,E5,C6,C6_,C8,C8_,G10,EL11,EG11,E11,C12_,C12_n,C12_k,C13_,C13_n,C13_k,C14_,C14_n,C14_k,C15,C15_,G16,EL17,EG17,E17,K18,C19_,C19_n,K20,C21]
theorem fps4_f20{x:ByteArray}{i2_15:Int}{x5:ByteArray}{x8:ByteArray}{r15:Rat}{r16:Int}{r17:Int}{r18:Bool}{r19:ByteArray}(L1:loopG Tryz.prog (tab (n+43)) 0 118 (livesOf 14) 4 fps4_C4 (fps4_h4 a0 [] (⟨#[]⟩:ByteArray) 0)=some (.exit 0,fps4_o4a a0 out_4 str_4))(M2:W.length≤100000000)(C3:¬(W.length:Int)<2)(G4:0<W.length)(E5:W[0]?=some x)(C6:¬(x.size:Int)<2)(C8:¬6<(x.size:Int))(L9:loopG Tryz.prog (tab (n+43)) 0 118 (livesOf 14) 15 fps4_C15 (fps4_h15 a0 W 1 0)=some (.exit 2,fps4_o15a a0 W i2_15))(G10:1<W.length)(E11:W[1]?=some x5)(C12:¬x5=(⟨#[111,110]⟩:ByteArray))(C13:¬x5=(⟨#[111,102,102]⟩:ByteArray))(C14:x5=(⟨#[62,61]⟩:ByteArray))(C15:2<(W.length:Int))(G16:2<W.length)(E17:W[2]?=some x8)(K18:run (n+42) 39 [.lit (.string x8)]=some (.tup [ratV r15,.lit (.int .i64 r16),.lit (.int .i64 r17)]))(C19:r17=0)(K20:run (n+42) 12 [.agg [.lit (.int .i64 3),.lit (.int .i64 i2_15),.lit (.bool (rawQ r15).s),natA (rawQ r15).l1,natA (rawQ r15).l2]]=some (.lit (.bool r18)))(C21:r18=true)(K22:run (n+42) 10 [.agg [.lit (.int .i64 3),.lit (.int .i64 i2_15),.lit (.bool (rawQ r15).s),natA (rawQ r15).l1,natA (rawQ r15).l2]]=some (.lit (.string r19)))(C23:¬r19=a0):
  run (n+43) 14 [.lit (.string a0)]=some (.tup [.agg [.lit (.int .i64 0),.lit (.int .i64 0),.lit (.bool false),.sl 1 [],.sl 1 []],.lit (.int .i64 4)]):=by
 have hWl:out_4.length+1=W.length:=by rw [←hW,List.length_append];rfl
 have hWi:(out_4.length:Int)+1=(W.length:Int):=by omega
 have hWm:out_4.map strC++[[.lit (.string str_4)]]=W.map strC:=by rw [←hW,List.map_append];rfl
 have M2_:∀b,b≤10000→roomy (W.length) b=true:=fun b hb=>roomy_s M2 hb
 have C3_:¬W.length<2:=by omega
 obtain ⟨EL5,EG5⟩:=List.getElem?_eq_some_iff.1 E5
 have C6_:¬x.size<2:=by omega
 have C8_:¬6<x.size:=by omega
 obtain ⟨EL11,EG11⟩:=List.getElem?_eq_some_iff.1 E11
 have C12_:(x5.toList==(⟨#[111,110]⟩:ByteArray).toList)=false:=by rw [beq_eq_false_iff_ne];exact fun h=>C12 (ba_inj h)
 have C12_n:(x5.toList !=(⟨#[111,110]⟩:ByteArray).toList)=true:=by rw [bne,C12_];rfl
 have C12_k:(x5.toList==([111,110]:List UInt8))=false:=by rw [show ([111,110]:List UInt8)=(⟨#[111,110]⟩:ByteArray).toList by rw [ba_toList]];exact C12_
 have C13_:(x5.toList==(⟨#[111,102,102]⟩:ByteArray).toList)=false:=by rw [beq_eq_false_iff_ne];exact fun h=>C13 (ba_inj h)
 have C13_n:(x5.toList !=(⟨#[111,102,102]⟩:ByteArray).toList)=true:=by rw [bne,C13_];rfl
 have C13_k:(x5.toList==([111,102,102]:List UInt8))=false:=by rw [show ([111,102,102]:List UInt8)=(⟨#[111,102,102]⟩:ByteArray).toList by rw [ba_toList]];exact C13_
 have C14_:(x5.toList==(⟨#[62,61]⟩:ByteArray).toList)=true:=by rw [C14];simp
 have C14_n:(x5.toList !=(⟨#[62,61]⟩:ByteArray).toList)=false:=by rw [bne,C14_];rfl
 have C14_k:(x5.toList==([62,61]:List UInt8))=true:=by rw [show ([62,61]:List UInt8)=(⟨#[62,61]⟩:ByteArray).toList by rw [ba_toList]];exact C14_
 have C15_:2<W.length:=by omega
 obtain ⟨EL17,EG17⟩:=List.getElem?_eq_some_iff.1 E17
 simp only [ratV] at K18
 have C19_:(r17==0)=true:=by rw [C19];simp
 have C19_n:(r17 !=0)=false:=by rw [C19];simp
 have C23_:(r19.toList==a0.toList)=false:=by rw [beq_eq_false_iff_ne];exact fun h=>C23 (ba_inj h)
 have C23_n:(r19.toList !=a0.toList)=true:=by rw [bne,C23_];rfl
 rw [C21] at K20
 unfold run fnP
 simp+decide [hWl,hWi,hWm, Tryz.f14,M2_,C3,C3_,G4,EL5,EG5,E5,C6,C6_,C8,C8_,G10,EL11,EG11,E11,C12_,C12_n,C12_k,C13_,C13_n,C13_k,C14_,C14_n,C14_k,C15,C15_,G16,EL17,EG17,E17,K18,C19_,C19_n,K20,C21,K22,C23_,C23_n]
 rw [loopX_G (C':=fps4_C4) (e:=(fps4_h4 a0 [] (⟨#[]⟩:ByteArray) 0)) ?_ ?_,L1]
 rotate_left
 ·kernel_rfl
 ·simp+decide [hWl,hWi,hWm,fps4_h4,M2_,C3,C3_,G4,EL5,EG5,E5,C6,C6_,C8,C8_,G10,EL11,EG11,E11,C12_,C12_n,C12_k,C13_,C13_n,C13_k,C14_,C14_n,C14_k,C15,C15_,G16,EL17,EG17,E17,K18,C19_,C19_n,K20,C21,K22,C23_,C23_n]
 simp+decide [hWl,hWi,hWm,fps4_o4a,M2_,C3,C3_,G4,EL5,EG5,E5,C6,C6_,C8,C8_,G10,EL11,EG11,E11,C12_,C12_n,C12_k,C13_,C13_n,C13_k,C14_,C14_n,C14_k,C15,C15_,G16,EL17,EG17,E17,K18,C19_,C19_n,K20,C21,K22,C23_,C23_n]
 rw [loopX_G (C':=fps4_C15) (e:=(fps4_h15 a0 W 1 0)) ?_ ?_,L9]
 rotate_left
 ·kernel_rfl
 ·simp+decide [hWl,hWi,hWm,fps4_h15,M2_,C3,C3_,G4,EL5,EG5,E5,C6,C6_,C8,C8_,G10,EL11,EG11,E11,C12_,C12_n,C12_k,C13_,C13_n,C13_k,C14_,C14_n,C14_k,C15,C15_,G16,EL17,EG17,E17,K18,C19_,C19_n,K20,C21,K22,C23_,C23_n]
 simp+decide [hWl,hWi,hWm,fps4_o15a,M2_,C3,C3_,G4,EL5,EG5,E5,C6,C6_,C8,C8_,G10,EL11,EG11,E11,C12_,C12_n,C12_k,C13_,C13_n,C13_k,C14_,C14_n,C14_k,C15,C15_,G16,EL17,EG17,E17,K18,C19_,C19_n,K20,C21,K22,C23_,C23_n]
theorem fps4_f21{x:ByteArray}{i2_15:Int}{x5:ByteArray}{x8:ByteArray}{r15:Rat}{r16:Int}{r17:Int}{r18:Bool}{r19:ByteArray}(L1:loopG Tryz.prog (tab (n+43)) 0 118 (livesOf 14) 4 fps4_C4 (fps4_h4 a0 [] (⟨#[]⟩:ByteArray) 0)=some (.exit 0,fps4_o4a a0 out_4 str_4))(M2:W.length≤100000000)(C3:¬(W.length:Int)<2)(G4:0<W.length)(E5:W[0]?=some x)(C6:¬(x.size:Int)<2)(C8:¬6<(x.size:Int))(L9:loopG Tryz.prog (tab (n+43)) 0 118 (livesOf 14) 15 fps4_C15 (fps4_h15 a0 W 1 0)=some (.exit 2,fps4_o15a a0 W i2_15))(G10:1<W.length)(E11:W[1]?=some x5)(C12:¬x5=(⟨#[111,110]⟩:ByteArray))(C13:¬x5=(⟨#[111,102,102]⟩:ByteArray))(C14:x5=(⟨#[62,61]⟩:ByteArray))(C15:2<(W.length:Int))(G16:2<W.length)(E17:W[2]?=some x8)(K18:run (n+42) 39 [.lit (.string x8)]=some (.tup [ratV r15,.lit (.int .i64 r16),.lit (.int .i64 r17)]))(C19:r17=0)(K20:run (n+42) 12 [.agg [.lit (.int .i64 3),.lit (.int .i64 i2_15),.lit (.bool (rawQ r15).s),natA (rawQ r15).l1,natA (rawQ r15).l2]]=some (.lit (.bool r18)))(C21:r18=true)(K22:run (n+42) 10 [.agg [.lit (.int .i64 3),.lit (.int .i64 i2_15),.lit (.bool (rawQ r15).s),natA (rawQ r15).l1,natA (rawQ r15).l2]]=some (.lit (.string r19)))(C23:r19=a0):
  run (n+43) 14 [.lit (.string a0)]=some (.tup [.agg [.lit (.int .i64 3),.lit (.int .i64 i2_15),.lit (.bool (rawQ r15).s),natA (rawQ r15).l1,natA (rawQ r15).l2],.lit (.int .i64 0)]):=by
 have hWl:out_4.length+1=W.length:=by rw [←hW,List.length_append];rfl
 have hWi:(out_4.length:Int)+1=(W.length:Int):=by omega
 have hWm:out_4.map strC++[[.lit (.string str_4)]]=W.map strC:=by rw [←hW,List.map_append];rfl
 have M2_:∀b,b≤10000→roomy (W.length) b=true:=fun b hb=>roomy_s M2 hb
 have C3_:¬W.length<2:=by omega
 obtain ⟨EL5,EG5⟩:=List.getElem?_eq_some_iff.1 E5
 have C6_:¬x.size<2:=by omega
 have C8_:¬6<x.size:=by omega
 obtain ⟨EL11,EG11⟩:=List.getElem?_eq_some_iff.1 E11
 have C12_:(x5.toList==(⟨#[111,110]⟩:ByteArray).toList)=false:=by rw [beq_eq_false_iff_ne];exact fun h=>C12 (ba_inj h)
 have C12_n:(x5.toList !=(⟨#[111,110]⟩:ByteArray).toList)=true:=by rw [bne,C12_];rfl
 have C12_k:(x5.toList==([111,110]:List UInt8))=false:=by rw [show ([111,110]:List UInt8)=(⟨#[111,110]⟩:ByteArray).toList by rw [ba_toList]];exact C12_
 have C13_:(x5.toList==(⟨#[111,102,102]⟩:ByteArray).toList)=false:=by rw [beq_eq_false_iff_ne];exact fun h=>C13 (ba_inj h)
 have C13_n:(x5.toList !=(⟨#[111,102,102]⟩:ByteArray).toList)=true:=by rw [bne,C13_];rfl
 have C13_k:(x5.toList==([111,102,102]:List UInt8))=false:=by rw [show ([111,102,102]:List UInt8)=(⟨#[111,102,102]⟩:ByteArray).toList by rw [ba_toList]];exact C13_
 have C14_:(x5.toList==(⟨#[62,61]⟩:ByteArray).toList)=true:=by rw [C14];simp
 have C14_n:(x5.toList !=(⟨#[62,61]⟩:ByteArray).toList)=false:=by rw [bne,C14_];rfl
 have C14_k:(x5.toList==([62,61]:List UInt8))=true:=by rw [show ([62,61]:List UInt8)=(⟨#[62,61]⟩:ByteArray).toList by rw [ba_toList]];exact C14_
 have C15_:2<W.length:=by omega
 obtain ⟨EL17,EG17⟩:=List.getElem?_eq_some_iff.1 E17
 simp only [ratV] at K18
 have C19_:(r17==0)=true:=by rw [C19];simp
 have C19_n:(r17 !=0)=false:=by rw [C19];simp
 have C23_:(r19.toList==a0.toList)=true:=by rw [C23];simp
 have C23_n:(r19.toList !=a0.toList)=false:=by rw [bne,C23_];rfl
 rw [C21] at K20
 unfold run fnP
 simp+decide [hWl,hWi,hWm, Tryz.f14,M2_,C3,C3_,G4,EL5,EG5,E5,C6,C6_,C8,C8_,G10,EL11,EG11,E11,C12_,C12_n,C12_k,C13_,C13_n,C13_k,C14_,C14_n,C14_k,C15,C15_,G16,EL17,EG17,E17,K18,C19_,C19_n,K20,C21,K22,C23_,C23_n]
 rw [loopX_G (C':=fps4_C4) (e:=(fps4_h4 a0 [] (⟨#[]⟩:ByteArray) 0)) ?_ ?_,L1]
 rotate_left
 ·kernel_rfl
 ·simp+decide [hWl,hWi,hWm,fps4_h4,M2_,C3,C3_,G4,EL5,EG5,E5,C6,C6_,C8,C8_,G10,EL11,EG11,E11,C12_,C12_n,C12_k,C13_,C13_n,C13_k,C14_,C14_n,C14_k,C15,C15_,G16,EL17,EG17,E17,K18,C19_,C19_n,K20,C21,K22,C23_,C23_n]
 simp+decide [hWl,hWi,hWm,fps4_o4a,M2_,C3,C3_,G4,EL5,EG5,E5,C6,C6_,C8,C8_,G10,EL11,EG11,E11,C12_,C12_n,C12_k,C13_,C13_n,C13_k,C14_,C14_n,C14_k,C15,C15_,G16,EL17,EG17,E17,K18,C19_,C19_n,K20,C21,K22,C23_,C23_n]
 rw [loopX_G (C':=fps4_C15) (e:=(fps4_h15 a0 W 1 0)) ?_ ?_,L9]
 rotate_left
 ·kernel_rfl
 ·simp+decide [hWl,hWi,hWm,fps4_h15,M2_,C3,C3_,G4,EL5,EG5,E5,C6,C6_,C8,C8_,G10,EL11,EG11,E11,C12_,C12_n,C12_k,C13_,C13_n,C13_k,C14_,C14_n,C14_k,C15,C15_,G16,EL17,EG17,E17,K18,C19_,C19_n,K20,C21,K22,C23_,C23_n]
 simp+decide [hWl,hWi,hWm,fps4_o15a,M2_,C3,C3_,G4,EL5,EG5,E5,C6,C6_,C8,C8_,G10,EL11,EG11,E11,C12_,C12_n,C12_k,C13_,C13_n,C13_k,C14_,C14_n,C14_k,C15,C15_,G16,EL17,EG17,E17,K18,C19_,C19_n,K20,C21,K22,C23_,C23_n]
theorem fps4_f22{x:ByteArray}{i2_15:Int}{x5:ByteArray}{r20:Bool}(L1:loopG Tryz.prog (tab (n+43)) 0 118 (livesOf 14) 4 fps4_C4 (fps4_h4 a0 [] (⟨#[]⟩:ByteArray) 0)=some (.exit 0,fps4_o4a a0 out_4 str_4))(M2:W.length≤100000000)(C3:¬(W.length:Int)<2)(G4:0<W.length)(E5:W[0]?=some x)(C6:¬(x.size:Int)<2)(C8:¬6<(x.size:Int))(L9:loopG Tryz.prog (tab (n+43)) 0 118 (livesOf 14) 15 fps4_C15 (fps4_h15 a0 W 1 0)=some (.exit 2,fps4_o15a a0 W i2_15))(G10:1<W.length)(E11:W[1]?=some x5)(C12:¬x5=(⟨#[111,110]⟩:ByteArray))(C13:¬x5=(⟨#[111,102,102]⟩:ByteArray))(C14:x5=(⟨#[62,61]⟩:ByteArray))(C15:¬2<(W.length:Int))(K16:run (n+42) 12 [.agg [.lit (.int .i64 3),.lit (.int .i64 i2_15),.lit (.bool false),.sl 1 [],.sl 1 []]]=some (.lit (.bool r20)))(C17:r20=false):
  run (n+43) 14 [.lit (.string a0)]=some (.tup [.agg [.lit (.int .i64 0),.lit (.int .i64 0),.lit (.bool false),.sl 1 [],.sl 1 []],.lit (.int .i64 4)]):=by
 have hWl:out_4.length+1=W.length:=by rw [←hW,List.length_append];rfl
 have hWi:(out_4.length:Int)+1=(W.length:Int):=by omega
 have hWm:out_4.map strC++[[.lit (.string str_4)]]=W.map strC:=by rw [←hW,List.map_append];rfl
 have M2_:∀b,b≤10000→roomy (W.length) b=true:=fun b hb=>roomy_s M2 hb
 have C3_:¬W.length<2:=by omega
 obtain ⟨EL5,EG5⟩:=List.getElem?_eq_some_iff.1 E5
 have C6_:¬x.size<2:=by omega
 have C8_:¬6<x.size:=by omega
 obtain ⟨EL11,EG11⟩:=List.getElem?_eq_some_iff.1 E11
 have C12_:(x5.toList==(⟨#[111,110]⟩:ByteArray).toList)=false:=by rw [beq_eq_false_iff_ne];exact fun h=>C12 (ba_inj h)
 have C12_n:(x5.toList !=(⟨#[111,110]⟩:ByteArray).toList)=true:=by rw [bne,C12_];rfl
 have C12_k:(x5.toList==([111,110]:List UInt8))=false:=by rw [show ([111,110]:List UInt8)=(⟨#[111,110]⟩:ByteArray).toList by rw [ba_toList]];exact C12_
 have C13_:(x5.toList==(⟨#[111,102,102]⟩:ByteArray).toList)=false:=by rw [beq_eq_false_iff_ne];exact fun h=>C13 (ba_inj h)
 have C13_n:(x5.toList !=(⟨#[111,102,102]⟩:ByteArray).toList)=true:=by rw [bne,C13_];rfl
 have C13_k:(x5.toList==([111,102,102]:List UInt8))=false:=by rw [show ([111,102,102]:List UInt8)=(⟨#[111,102,102]⟩:ByteArray).toList by rw [ba_toList]];exact C13_
 have C14_:(x5.toList==(⟨#[62,61]⟩:ByteArray).toList)=true:=by rw [C14];simp
 have C14_n:(x5.toList !=(⟨#[62,61]⟩:ByteArray).toList)=false:=by rw [bne,C14_];rfl
 have C14_k:(x5.toList==([62,61]:List UInt8))=true:=by rw [show ([62,61]:List UInt8)=(⟨#[62,61]⟩:ByteArray).toList by rw [ba_toList]];exact C14_
 have C15_:¬2<W.length:=by omega
 rw [C17] at K16
 unfold run fnP
 simp+decide [hWl,hWi,hWm, Tryz.f14,M2_,C3,C3_,G4,EL5,EG5,E5,C6,C6_,C8,C8_,G10,EL11,EG11,E11,C12_,C12_n,C12_k,C13_,C13_n,C13_k,C14_,C14_n,C14_k,C15,C15_,K16,C17]
 rw [loopX_G (C':=fps4_C4) (e:=(fps4_h4 a0 [] (⟨#[]⟩:ByteArray) 0)) ?_ ?_,L1]
 rotate_left
 ·kernel_rfl
 ·simp+decide [hWl,hWi,hWm,fps4_h4,M2_,C3,C3_,G4,EL5,EG5,E5,C6,C6_,C8,C8_,G10,EL11,EG11,E11,C12_,C12_n,C12_k,C13_,C13_n,C13_k,C14_,C14_n,C14_k,C15,C15_,K16,C17]
 simp+decide [hWl,hWi,hWm,fps4_o4a,M2_,C3,C3_,G4,EL5,EG5,E5,C6,C6_,C8,C8_,G10,EL11,EG11,E11,C12_,C12_n,C12_k,C13_,C13_n,C13_k,C14_,C14_n,C14_k,C15,C15_,K16,C17]
 rw [loopX_G (C':=fps4_C15) (e:=(fps4_h15 a0 W 1 0)) ?_ ?_,L9]
 rotate_left
 ·kernel_rfl
 ·simp+decide [hWl,hWi,hWm,fps4_h15,M2_,C3,C3_,G4,EL5,EG5,E5,C6,C6_,C8,C8_,G10,EL11,EG11,E11,C12_,C12_n,C12_k,C13_,C13_n,C13_k,C14_,C14_n,C14_k,C15,C15_,K16,C17]
 simp+decide [hWl,hWi,hWm,fps4_o15a,M2_,C3,C3_,G4,EL5,EG5,E5,C6,C6_,C8,C8_,G10,EL11,EG11,E11,C12_,C12_n,C12_k,C13_,C13_n,C13_k,C14_,C14_n,C14_k,C15,C15_,K16,C17]
theorem fps4_f23{x:ByteArray}{i2_15:Int}{x5:ByteArray}{r20:Bool}{r21:ByteArray}(L1:loopG Tryz.prog (tab (n+43)) 0 118 (livesOf 14) 4 fps4_C4 (fps4_h4 a0 [] (⟨#[]⟩:ByteArray) 0)=some (.exit 0,fps4_o4a a0 out_4 str_4))(M2:W.length≤100000000)(C3:¬(W.length:Int)<2)(G4:0<W.length)(E5:W[0]?=some x)(C6:¬(x.size:Int)<2)(C8:¬6<(x.size:Int))(L9:loopG Tryz.prog (tab (n+43)) 0 118 (livesOf 14) 15 fps4_C15 (fps4_h15 a0 W 1 0)=some (.exit 2,fps4_o15a a0 W i2_15))(G10:1<W.length)(E11:W[1]?=some x5)(C12:¬x5=(⟨#[111,110]⟩:ByteArray))(C13:¬x5=(⟨#[111,102,102]⟩:ByteArray))(C14:x5=(⟨#[62,61]⟩:ByteArray))(C15:¬2<(W.length:Int))(K16:run (n+42) 12 [.agg [.lit (.int .i64 3),.lit (.int .i64 i2_15),.lit (.bool false),.sl 1 [],.sl 1 []]]=some (.lit (.bool r20)))(C17:r20=true)(K18:run (n+42) 10 [.agg [.lit (.int .i64 3),.lit (.int .i64 i2_15),.lit (.bool false),.sl 1 [],.sl 1 []]]=some (.lit (.string r21)))(C19:¬r21=a0):
  run (n+43) 14 [.lit (.string a0)]=some (.tup [.agg [.lit (.int .i64 0),.lit (.int .i64 0),.lit (.bool false),.sl 1 [],.sl 1 []],.lit (.int .i64 4)]):=by
 have hWl:out_4.length+1=W.length:=by rw [←hW,List.length_append];rfl
 have hWi:(out_4.length:Int)+1=(W.length:Int):=by omega
 have hWm:out_4.map strC++[[.lit (.string str_4)]]=W.map strC:=by rw [←hW,List.map_append];rfl
 have M2_:∀b,b≤10000→roomy (W.length) b=true:=fun b hb=>roomy_s M2 hb
 have C3_:¬W.length<2:=by omega
 obtain ⟨EL5,EG5⟩:=List.getElem?_eq_some_iff.1 E5
 have C6_:¬x.size<2:=by omega
 have C8_:¬6<x.size:=by omega
 obtain ⟨EL11,EG11⟩:=List.getElem?_eq_some_iff.1 E11
 have C12_:(x5.toList==(⟨#[111,110]⟩:ByteArray).toList)=false:=by rw [beq_eq_false_iff_ne];exact fun h=>C12 (ba_inj h)
 have C12_n:(x5.toList !=(⟨#[111,110]⟩:ByteArray).toList)=true:=by rw [bne,C12_];rfl
 have C12_k:(x5.toList==([111,110]:List UInt8))=false:=by rw [show ([111,110]:List UInt8)=(⟨#[111,110]⟩:ByteArray).toList by rw [ba_toList]];exact C12_
 have C13_:(x5.toList==(⟨#[111,102,102]⟩:ByteArray).toList)=false:=by rw [beq_eq_false_iff_ne];exact fun h=>C13 (ba_inj h)
 have C13_n:(x5.toList !=(⟨#[111,102,102]⟩:ByteArray).toList)=true:=by rw [bne,C13_];rfl
 have C13_k:(x5.toList==([111,102,102]:List UInt8))=false:=by rw [show ([111,102,102]:List UInt8)=(⟨#[111,102,102]⟩:ByteArray).toList by rw [ba_toList]];exact C13_
 have C14_:(x5.toList==(⟨#[62,61]⟩:ByteArray).toList)=true:=by rw [C14];simp
 have C14_n:(x5.toList !=(⟨#[62,61]⟩:ByteArray).toList)=false:=by rw [bne,C14_];rfl
 have C14_k:(x5.toList==([62,61]:List UInt8))=true:=by rw [show ([62,61]:List UInt8)=(⟨#[62,61]⟩:ByteArray).toList by rw [ba_toList]];exact C14_
 have C15_:¬2<W.length:=by omega
 have C19_:(r21.toList==a0.toList)=false:=by rw [beq_eq_false_iff_ne];exact fun h=>C19 (ba_inj h)
 have C19_n:(r21.toList !=a0.toList)=true:=by rw [bne,C19_];rfl
 rw [C17] at K16
 unfold run fnP
 simp+decide [hWl,hWi,hWm, Tryz.f14,M2_,C3,C3_,G4,EL5,EG5,E5,C6,C6_,C8,C8_,G10,EL11,EG11,E11,C12_,C12_n,C12_k,C13_,C13_n,C13_k,C14_,C14_n,C14_k,C15,C15_,K16,C17,K18,C19_,C19_n]
 rw [loopX_G (C':=fps4_C4) (e:=(fps4_h4 a0 [] (⟨#[]⟩:ByteArray) 0)) ?_ ?_,L1]
 rotate_left
 ·kernel_rfl
 ·simp+decide [hWl,hWi,hWm,fps4_h4,M2_,C3,C3_,G4,EL5,EG5,E5,C6,C6_,C8,C8_,G10,EL11,EG11,E11,C12_,C12_n,C12_k,C13_,C13_n,C13_k,C14_,C14_n,C14_k,C15,C15_,K16,C17,K18,C19_,C19_n]
 simp+decide [hWl,hWi,hWm,fps4_o4a,M2_,C3,C3_,G4,EL5,EG5,E5,C6,C6_,C8,C8_,G10,EL11,EG11,E11,C12_,C12_n,C12_k,C13_,C13_n,C13_k,C14_,C14_n,C14_k,C15,C15_,K16,C17,K18,C19_,C19_n]
 rw [loopX_G (C':=fps4_C15) (e:=(fps4_h15 a0 W 1 0)) ?_ ?_,L9]
 rotate_left
 ·kernel_rfl
 ·simp+decide [hWl,hWi,hWm,fps4_h15,M2_,C3,C3_,G4,EL5,EG5,E5,C6,C6_,C8,C8_,G10,EL11,EG11,E11,C12_,C12_n,C12_k,C13_,C13_n,C13_k,C14_,C14_n,C14_k,C15,C15_,K16,C17,K18,C19_,C19_n]
 simp+decide [hWl,hWi,hWm,fps4_o15a,M2_,C3,C3_,G4,EL5,EG5,E5,C6,C6_,C8,C8_,G10,EL11,EG11,E11,C12_,C12_n,C12_k,C13_,C13_n,C13_k,C14_,C14_n,C14_k,C15,C15_,K16,C17,K18,C19_,C19_n]
theorem fps4_f24{x:ByteArray}{i2_15:Int}{x5:ByteArray}{r20:Bool}{r21:ByteArray}(L1:loopG Tryz.prog (tab (n+43)) 0 118 (livesOf 14) 4 fps4_C4 (fps4_h4 a0 [] (⟨#[]⟩:ByteArray) 0)=some (.exit 0,fps4_o4a a0 out_4 str_4))(M2:W.length≤100000000)(C3:¬(W.length:Int)<2)(G4:0<W.length)(E5:W[0]?=some x)(C6:¬(x.size:Int)<2)(C8:¬6<(x.size:Int))(L9:loopG Tryz.prog (tab (n+43)) 0 118 (livesOf 14) 15 fps4_C15 (fps4_h15 a0 W 1 0)=some (.exit 2,fps4_o15a a0 W i2_15))(G10:1<W.length)(E11:W[1]?=some x5)(C12:¬x5=(⟨#[111,110]⟩:ByteArray))(C13:¬x5=(⟨#[111,102,102]⟩:ByteArray))(C14:x5=(⟨#[62,61]⟩:ByteArray))(C15:¬2<(W.length:Int))(K16:run (n+42) 12 [.agg [.lit (.int .i64 3),.lit (.int .i64 i2_15),.lit (.bool false),.sl 1 [],.sl 1 []]]=some (.lit (.bool r20)))(C17:r20=true)(K18:run (n+42) 10 [.agg [.lit (.int .i64 3),.lit (.int .i64 i2_15),.lit (.bool false),.sl 1 [],.sl 1 []]]=some (.lit (.string r21)))(C19:r21=a0):
  run (n+43) 14 [.lit (.string a0)]=some (.tup [.agg [.lit (.int .i64 3),.lit (.int .i64 i2_15),.lit (.bool false),.sl 1 [],.sl 1 []],.lit (.int .i64 0)]):=by
 have hWl:out_4.length+1=W.length:=by rw [←hW,List.length_append];rfl
 have hWi:(out_4.length:Int)+1=(W.length:Int):=by omega
 have hWm:out_4.map strC++[[.lit (.string str_4)]]=W.map strC:=by rw [←hW,List.map_append];rfl
 have M2_:∀b,b≤10000→roomy (W.length) b=true:=fun b hb=>roomy_s M2 hb
 have C3_:¬W.length<2:=by omega
 obtain ⟨EL5,EG5⟩:=List.getElem?_eq_some_iff.1 E5
 have C6_:¬x.size<2:=by omega
 have C8_:¬6<x.size:=by omega
 obtain ⟨EL11,EG11⟩:=List.getElem?_eq_some_iff.1 E11
 have C12_:(x5.toList==(⟨#[111,110]⟩:ByteArray).toList)=false:=by rw [beq_eq_false_iff_ne];exact fun h=>C12 (ba_inj h)
 have C12_n:(x5.toList !=(⟨#[111,110]⟩:ByteArray).toList)=true:=by rw [bne,C12_];rfl
 have C12_k:(x5.toList==([111,110]:List UInt8))=false:=by rw [show ([111,110]:List UInt8)=(⟨#[111,110]⟩:ByteArray).toList by rw [ba_toList]];exact C12_
 have C13_:(x5.toList==(⟨#[111,102,102]⟩:ByteArray).toList)=false:=by rw [beq_eq_false_iff_ne];exact fun h=>C13 (ba_inj h)
 have C13_n:(x5.toList !=(⟨#[111,102,102]⟩:ByteArray).toList)=true:=by rw [bne,C13_];rfl
 have C13_k:(x5.toList==([111,102,102]:List UInt8))=false:=by rw [show ([111,102,102]:List UInt8)=(⟨#[111,102,102]⟩:ByteArray).toList by rw [ba_toList]];exact C13_
 have C14_:(x5.toList==(⟨#[62,61]⟩:ByteArray).toList)=true:=by rw [C14];simp
 have C14_n:(x5.toList !=(⟨#[62,61]⟩:ByteArray).toList)=false:=by rw [bne,C14_];rfl
 have C14_k:(x5.toList==([62,61]:List UInt8))=true:=by rw [show ([62,61]:List UInt8)=(⟨#[62,61]⟩:ByteArray).toList by rw [ba_toList]];exact C14_
 have C15_:¬2<W.length:=by omega
 have C19_:(r21.toList==a0.toList)=true:=by rw [C19];simp
 have C19_n:(r21.toList !=a0.toList)=false:=by rw [bne,C19_];rfl
 rw [C17] at K16
 unfold run fnP
 simp+decide [hWl,hWi,hWm, Tryz.f14,M2_,C3,C3_,G4,EL5,EG5,E5,C6,C6_,C8,C8_,G10,EL11,EG11,E11,C12_,C12_n,C12_k,C13_,C13_n,C13_k,C14_,C14_n,C14_k,C15,C15_,K16,C17,K18,C19_,C19_n]
 rw [loopX_G (C':=fps4_C4) (e:=(fps4_h4 a0 [] (⟨#[]⟩:ByteArray) 0)) ?_ ?_,L1]
 rotate_left
 ·kernel_rfl
 ·simp+decide [hWl,hWi,hWm,fps4_h4,M2_,C3,C3_,G4,EL5,EG5,E5,C6,C6_,C8,C8_,G10,EL11,EG11,E11,C12_,C12_n,C12_k,C13_,C13_n,C13_k,C14_,C14_n,C14_k,C15,C15_,K16,C17,K18,C19_,C19_n]
 simp+decide [hWl,hWi,hWm,fps4_o4a,M2_,C3,C3_,G4,EL5,EG5,E5,C6,C6_,C8,C8_,G10,EL11,EG11,E11,C12_,C12_n,C12_k,C13_,C13_n,C13_k,C14_,C14_n,C14_k,C15,C15_,K16,C17,K18,C19_,C19_n]
 rw [loopX_G (C':=fps4_C15) (e:=(fps4_h15 a0 W 1 0)) ?_ ?_,L9]
 rotate_left
 ·kernel_rfl
 ·simp+decide [hWl,hWi,hWm,fps4_h15,M2_,C3,C3_,G4,EL5,EG5,E5,C6,C6_,C8,C8_,G10,EL11,EG11,E11,C12_,C12_n,C12_k,C13_,C13_n,C13_k,C14_,C14_n,C14_k,C15,C15_,K16,C17,K18,C19_,C19_n]
 simp+decide [hWl,hWi,hWm,fps4_o15a,M2_,C3,C3_,G4,EL5,EG5,E5,C6,C6_,C8,C8_,G10,EL11,EG11,E11,C12_,C12_n,C12_k,C13_,C13_n,C13_k,C14_,C14_n,C14_k,C15,C15_,K16,C17,K18,C19_,C19_n]
end
end
end
end Go.Proofs.YtnegdhjdienjlaaGreatDoor
