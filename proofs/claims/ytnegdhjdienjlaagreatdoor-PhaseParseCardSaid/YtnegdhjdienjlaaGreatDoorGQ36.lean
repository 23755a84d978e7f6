import Derived.Test.YtnegdhjdienjlaaGreatDoorGQ32
set_option linter.all false
set_option maxHeartbeats 6400000
set_option maxRecDepth 100000
namespace Go.Proofs.YtnegdhjdienjlaaGreatDoor
section
open Go.RowKit
section
variable {str_4 : ByteArray} {a0 : ByteArray} {out_4 : List ByteArray} {n : Nat} {W : List ByteArray}
section
variable(hW:out_4++[str_4]=W)
include hW
theorem fps4_f32{x:ByteArray}{i2_15:Int}{x5:ByteArray}{x10:ByteArray}{r29:Rat}{r30:Int}{r31:Int}(L1:loopG Tryz.prog (tab (n+43)) 0 118 (livesOf 14) 4 fps4_C4 (fps4_h4 a0 [] (⟨#[]⟩:ByteArray) 0)=some (.exit 0,fps4_o4a a0 out_4 str_4))(M2:W.length≤100000000)(C3:¬(W.length:Int)<2)(G4:0<W.length)(E5:W[0]?=some x)(C6:¬(x.size:Int)<2)(C8:¬6<(x.size:Int))(L9:loopG Tryz.prog (tab (n+43)) 0 118 (livesOf 14) 15 fps4_C15 (fps4_h15 a0 W 1 0)=some (.exit 2,fps4_o15a a0 W i2_15))(G10:1<W.length)(E11:W[1]?=some x5)(C12:¬x5=(⟨#[111,110]⟩:ByteArray))(C13:¬x5=(⟨#[111,102,102]⟩:ByteArray))(C14:¬x5=(⟨#[62,61]⟩:ByteArray))(C15:¬x5=(⟨#[60,61]⟩:ByteArray))(C16:2<(W.length:Int))(G17:2<W.length)(E18:W[2]?=some x10)(K19:run (n+42) 39 [.lit (.string x10)]=some (.tup [ratV r29,.lit (.int .i64 r30),.lit (.int .i64 r31)]))(C20:¬r31=0):
  run (n+43) 14 [.lit (.string a0)]=some (.tup [.agg [.lit (.int .i64 0),.lit (.int .i64 0),.lit (.bool false),.sl 1 [],.sl 1 []],.lit (.int .i64 4)]):=by
 have hWl:out_4.length+1=W.length:=by rw [←hW,List.length_append];rfl
 have hWi:(out_4.length:Int)+1=(W.length:Int):=by omega
 have hWm:out_4.map strC++[[.lit (.string str_4)]]=W.map strC:=by rw [←hW,List.map_append];rfl
 have M2_:∀b,b≤10000→roomy (W.length) b=true:=fun b hb=>roomy_s M2 hb
 have C3_:¬W.length<2:=by omega
 obtain ⟨EL5,EG5⟩:=List.getElem?_eq_some_iff.1 E5
 have C6_:¬x.size<2:=by omega
 have C8_:¬6<x.size:=by omega
 obtain ⟨EL11,EG11⟩:=List.getElem?_eq_some_iff.1 E11
 have C12_:(x5.toList==(⟨#[111,110]⟩:ByteArray).toList)=false:=by rw [beq_eq_false_iff_ne];exact fun h=>C12 (ba_inj h)
 have C12_n:(x5.toList !=(⟨#[111,110]⟩:ByteArray).toList)=true:=by rw [bne,C12_];rfl
 have C12_k:(x5.toList==([111,110]:List UInt8))=false:=by rw [show ([111,110]:List UInt8)=(⟨#[111,110]⟩:ByteArray).toList by rw [ba_toList]];exact C12_
 have C13_:(x5.toList==(⟨#[111,102,102]⟩:ByteArray).toList)=false:=by rw [beq_eq_false_iff_ne];exact fun h=>C13 (ba_inj h)
 have C13_n:(x5.toList !=(⟨#[111,102,102]⟩:ByteArray).toList)=true:=by rw [bne,C13_];rfl
 have C13_k:(x5.toList==([111,102,102]:List UInt8))=false:=by rw [show ([111,102,102]:List UInt8)=(⟨#[111,102,102]⟩:ByteArray).toList by rw [ba_toList]];exact C13_
 have C14_:(x5.toList==(⟨#[62,61]⟩:ByteArray).toList)=false:=by rw [beq_eq_false_iff_ne];exact fun h=>C14 (ba_inj h)
 have C14_n:(x5.toList !=(⟨#[62,61]⟩:ByteArray).toList)=true:=by rw [bne,C14_];rfl
 have C14_k:(x5.toList==([62,61]:List UInt8))=false:=by rw [show ([62,61]:List UInt8)=(⟨#[62,61]⟩:ByteArray).toList by rw [ba_toList]];exact C14_
 have C15_:(x5.toList==(⟨#[60,61]⟩:ByteArray).toList)=false:=by rw [beq_eq_false_iff_ne];exact fun h=>C15 (ba_inj h)
 have C15_n:(x5.toList !=(⟨#[60,61]⟩:ByteArray).toList)=true:=by rw [bne,C15_];rfl
 have C15_k:(x5.toList==([60,61]:List UInt8))=false:=by rw [show ([60,61]:List UInt8)=(⟨#[60,61]⟩:ByteArray).toList by rw [ba_toList]];exact C15_
 have C16_:2<W.length:=by omega
 obtain ⟨EL18,EG18⟩:=List.getElem?_eq_some_iff.1 E18
 simp only [ratV] at K19
 have C20_:(r31==0)=false:=by simpa using C20
 have C20_n:(r31 !=0)=true:=by simpa using C20
 unfold run fnP
 simp+decide [hWl,hWi,hWm, Tryz.f14,M2_,C3,C3_,G4,EL5,EG5,E5,C6,C6_,C8,C8_,G10,EL11,EG11,E11,C12_,C12_n,C12_k,C13_,C13_n,C13_k,C14_,C14_n,C14_k,C15_,C15_n,C15_k,C16,C16_,G17,EL18,EG18,E18,K19,C20_,C20_n]
 rw [loopX_G (C':=fps4_C4) (e:=(fps4_h4 a0 [] (⟨#[]⟩:ByteArray) 0)) ?_ ?_,L1]
 rotate_left
 ·kernel_rfl
 ·simp+decide [hWl,hWi,hWm,fps4_h4,M2_,C3,C3_,G4,EL5,EG5,E5,C6,C6_,C8,C8_,G10,EL11,EG11,E11,C12_,C12_n,C12_k,C13_,C13_n,C13_k,C14_,C14_n,C14_k,C15_,C15_n,C15_k,C16,C16_,G17,EL18,EG18,E18,K19,C20_,C20_n]
 simp+decide [hWl,hWi,hWm,fps4_o4a,M2_,C3,C3_,G4,EL5,EG5,E5,C6,C6_,C8,C8_,G10,EL11,EG11,E11,C12_,C12_n,C12_k,C13_,C13_n,C13_k,C14_,C14_n,C14_k,C15_,C15_n,C15_k,C16,C16_,G17,EL18,EG18,E18,K19,C20_,C20_n]
 rw [loopX_G (C':=fps4_C15) (e:=(fps4_h15 a0 W 1 0)) ?_ ?_,L9]
 rotate_left
 ·kernel_rfl
 ·simp+decide [hWl,hWi,hWm,fps4_h15,M2_,C3,C3_,G4,EL5,EG5,E5,C6,C6_,C8,C8_,G10,EL11,EG11,E11,C12_,C12_n,C12_k,C13_,C13_n,C13_k,C14_,C14_n,C14_k,C15_,C15_n,C15_k,C16,C16_,G17,EL18,EG18,E18,K19,C20_,C20_n]
 simp+decide [hWl,hWi,hWm,fps4_o15a,M2_,C3,C3_,G4,EL5,EG5,E5,C6,C6_,C8,C8_,G10,EL11,EG11,E11,C12_,C12_n,C12_k,C13_,C13_n,C13_k,C14_,C14_n,C14_k,C15_,C15_n,C15_k,C16,C16_,G17,EL18,EG18,E18,K19,C20_,C20_n]
theorem fps4_f33{x:ByteArray}{i2_15:Int}{x5:ByteArray}{x10:ByteArray}{r29:Rat}{r30:Int}{r31:Int}{r32:Bool}(L1:loopG Tryz.prog (tab (n+43)) 0 118 (livesOf 14) 4 fps4_C4 (fps4_h4 a0 [] (⟨#[]⟩:ByteArray) 0)=some (.exit 0,fps4_o4a a0 out_4 str_4))(M2:W.length≤100000000)(C3:¬(W.length:Int)<2)(G4:0<W.length)(E5:W[0]?=some x)(C6:¬(x.size:Int)<2)(C8:¬6<(x.size:Int))(L9:loopG Tryz.prog (tab (n+43)) 0 118 (livesOf 14) 15 fps4_C15 (fps4_h15 a0 W 1 0)=some (.exit 2,fps4_o15a a0 W i2_15))(G10:1<W.length)(E11:W[1]?=some x5)(C12:¬x5=(⟨#[111,110]⟩:ByteArray))(C13:¬x5=(⟨#[111,102,102]⟩:ByteArray))(C14:¬x5=(⟨#[62,61]⟩:ByteArray))(C15:¬x5=(⟨#[60,61]⟩:ByteArray))(C16:2<(W.length:Int))(G17:2<W.length)(E18:W[2]?=some x10)(K19:run (n+42) 39 [.lit (.string x10)]=some (.tup [ratV r29,.lit (.int .i64 r30),.lit (.int .i64 r31)]))(C20:r31=0)(K21:run (n+42) 12 [.agg [.lit (.int .i64 0),.lit (.int .i64 i2_15),.lit (.bool (rawQ r29).s),natA (rawQ r29).l1,natA (rawQ r29).l2]]=some (.lit (.bool r32)))(C22:r32=false):
  run (n+43) 14 [.lit (.string a0)]=some (.tup [.agg [.lit (.int .i64 0),.lit (.int .i64 0),.lit (.bool false),.sl 1 [],.sl 1 []],.lit (.int .i64 4)]):=by
 have hWl:out_4.length+1=W.length:=by rw [←hW,List.length_append];rfl
 have hWi:(out_4.length:Int)+1=(W.length:Int):=by omega
 have hWm:out_4.map strC++[[.lit (.string str_4)]]=W.map strC:=by rw [←hW,List.map_append];rfl
 have M2_:∀b,b≤10000→roomy (W.length) b=true:=fun b hb=>roomy_s M2 hb
 have C3_:¬W.length<2:=by omega
 obtain ⟨EL5,EG5⟩:=List.getElem?_eq_some_iff.1 E5
 have C6_:¬x.size<2:=by omega
 have C8_:¬6<x.size:=by omega
 obtain ⟨EL11,EG11⟩:=List.getElem?_eq_some_iff.1 E11
 have C12_:(x5.toList==(⟨#[111,110]⟩:ByteArray).toList)=false:=by rw [beq_eq_false_iff_ne];exact fun h=>C12 (ba_inj h)
 have C12_n:(x5.toList !=(⟨#[111,110]⟩:ByteArray).toList)=true:=by rw [bne,C12_];rfl
 have C12_k:(x5.toList==([111,110]:List UInt8))=false:=by rw [show ([111,110]:List UInt8)=(⟨#[111,110]⟩:ByteArray).toList by rw [ba_toList]];exact C12_
 have C13_:(x5.toList==(⟨#[111,102,102]⟩:ByteArray).toList)=false:=by rw [beq_eq_false_iff_ne];exact fun h=>C13 (ba_inj h)
 have C13_n:(x5.toList !=(⟨#[111,102,102]⟩:ByteArray).toList)=true:=by rw [bne,C13_];rfl
 have C13_k:(x5.toList==([111,102,102]:List UInt8))=false:=by rw [show ([111,102,102]:List UInt8)=(⟨#[111,102,102]⟩:ByteArray).toList by rw [ba_toList]];exact C13_
 have C14_:(x5.toList==(⟨#[62,61]⟩:ByteArray).toList)=false:=by rw [beq_eq_false_iff_ne];exact fun h=>C14 (ba_inj h)
 have C14_n:(x5.toList !=(⟨#[62,61]⟩:ByteArray).toList)=true:=by rw [bne,C14_];rfl
 have C14_k:(x5.toList==([62,61]:List UInt8))=false:=by rw [show ([62,61]:List UInt8)=(⟨#[62,61]⟩:ByteArray).toList by rw [ba_toList]];exact C14_
 have C15_:(x5.toList==(⟨#[60,61]⟩:ByteArray).toList)=false:=by rw [beq_eq_false_iff_ne];exact fun h=>C15 (ba_inj h)
 have C15_n:(x5.toList !=(⟨#[60,61]⟩:ByteArray).toList)=true:=by rw [bne,C15_];rfl
 have C15_k:(x5.toList==([60,61]:List UInt8))=false:=by rw [show ([60,61]:List UInt8)=(⟨#[60,61]⟩:ByteArray).toList by rw [ba_toList]];exact C15_
 have C16_:2<W.length:=by omega
 obtain ⟨EL18,EG18⟩:=List.getElem?_eq_some_iff.1 E18
 simp only [ratV] at K19
 have C20_:(r31==0)=true:=by rw [C20];simp
 have C20_n:(r31 !=0)=false:=by rw [C20];simp
 rw [C22] at K21
 unfold run fnP
 simp+decide [hWl,hWi,hWm, Tryz.f14,M2_,C3,C3_,G4,EL5,EG5,E5,C6,C6_,C8,C8_,G10,EL11,EG11,E11,C12_,C12_n,C12_k,C13_,C13_n,C13_k,C14_,C14_n,C14_k,C15_,C15_n,C15_k,C16,C16_,G17,EL18,EG18,E18,K19,C20_,C20_n,K21,C22]
 rw [loopX_G (C':=fps4_C4) (e:=(fps4_h4 a0 [] (⟨#[]⟩:ByteArray) 0)) ?_ ?_,L1]
 rotate_left
 ·kernel_rfl
 ·simp+decide [hWl,hWi,hWm,fps4_h4,M2_,C3,C3_,G4,EL5,EG5,E5,C6,C6_,C8,C8_,G10,EL11,EG11,E11,C12_,C12_n,C12_k,C13_,C13_n,C13_k,C14_,C14_n,C14_k,C15_,C15_n,C15_k,C16,C16_,G17,EL18,EG18,E18,K19,C20_,C20_n,K21,C22]
 simp+decide [hWl,hWi,hWm,fps4_o4a,M2_,C3,C3_,G4,EL5,EG5,E5,C6,C6_,C8,C8_,G10,EL11,EG11,E11,C12_,C12_n,C12_k,C13_,C13_n,C13_k,C14_,C14_n,C14_k,C15_,C15_n,C15_k,C16,C16_,G17,EL18,EG18,E18,K19,C20_,C20_n,K21,C22]
 rw [loopX_G (C':=fps4_C15) (e:=(fps4_h15 a0 W 1 0)) ?_ ?_,L9]
 rotate_left
 ·kernel_rfl
 ·simp+decide [hWl,hWi,hWm,fps4_h15,M2_,C3,C3_,G4,EL5,EG5,E5,C6,C6_,C8,C8_,G10,EL11,EG11,E11,C12_,C12_n,C12_k,C13_,C13_n,C13_k,C14_,C14_n,C14_k,C15_,C15_n,C15_k,C16,C16_,G17,EL18,EG18,E18,K19,C20_,C20_n,K21,C22]
 simp+decide [hWl,hWi,hWm,fps4_o15a,M2_,C3,C3_,G4,EL5,EG5,E5,C6,C6_,C8,C8_,G10,EL11,EG11,E11,C12_,C12_n,C12_k,C13_,C13_n,C13_k,C14_,C14_n,C14_k,C15_,C15_n,C15_k,C16,C16_,G17,EL18,EG18,E18,K19,C20_,C20_n,K21,C22]
theorem fps4_f34{x:ByteArray}{i2_15:Int}{x5:ByteArray}{x10:ByteArray}{r29:Rat}{r30:Int}{r31:Int}{r32:Bool}{r33:ByteArray}(L1:loopG Tryz.prog (tab (n+43)) 0 118 (livesOf 14) 4 fps4_C4 (fps4_h4 a0 [] (⟨#[]⟩:ByteArray) 0)=some (.exit 0,fps4_o4a a0 out_4 str_4))(M2:W.length≤100000000)(C3:¬(W.length:Int)<2)(G4:0<W.length)(E5:W[0]?=some x)(C6:¬(x.size:Int)<2)(C8:¬6<(x.size:Int))(L9:loopG Tryz.prog (tab (n+43)) 0 118 (livesOf 14) 15 fps4_C15 (fps4_h15 a0 W 1 0)=some (.exit 2,fps4_o15a a0 W i2_15))(G10:1<W.length)(E11:W[1]?=some x5)(C12:¬x5=(⟨#[111,110]⟩:ByteArray))(C13:¬x5=(⟨#[111,102,102]⟩:ByteArray))(C14:¬x5=(⟨#[62,61]⟩:ByteArray))(C15:¬x5=(⟨#[60,61]⟩:ByteArray))(C16:2<(W.length:Int))(G17:2<W.length)(E18:W[2]?=some x10)(K19:run (n+42) 39 [.lit (.string x10)]=some (.tup [ratV r29,.lit (.int .i64 r30),.lit (.int .i64 r31)]))(C20:r31=0)(K21:run (n+42) 12 [.agg [.lit (.int .i64 0),.lit (.int .i64 i2_15),.lit (.bool (rawQ r29).s),natA (rawQ r29).l1,natA (rawQ r29).l2]]=some (.lit (.bool r32)))(C22:r32=true)(K23:run (n+42) 10 [.agg [.lit (.int .i64 0),.lit (.int .i64 i2_15),.lit (.bool (rawQ r29).s),natA (rawQ r29).l1,natA (rawQ r29).l2]]=some (.lit (.string r33)))(C24:¬r33=a0):
  run (n+43) 14 [.lit (.string a0)]=some (.tup [.agg [.lit (.int .i64 0),.lit (.int .i64 0),.lit (.bool false),.sl 1 [],.sl 1 []],.lit (.int .i64 4)]):=by
 have hWl:out_4.length+1=W.length:=by rw [←hW,List.length_append];rfl
 have hWi:(out_4.length:Int)+1=(W.length:Int):=by omega
 have hWm:out_4.map strC++[[.lit (.string str_4)]]=W.map strC:=by rw [←hW,List.map_append];rfl
 have M2_:∀b,b≤10000→roomy (W.length) b=true:=fun b hb=>roomy_s M2 hb
 have C3_:¬W.length<2:=by omega
 obtain ⟨EL5,EG5⟩:=List.getElem?_eq_some_iff.1 E5
 have C6_:¬x.size<2:=by omega
 have C8_:¬6<x.size:=by omega
 obtain ⟨EL11,EG11⟩:=List.getElem?_eq_some_iff.1 E11
 have C12_:(x5.toList==(⟨#[111,110]⟩:ByteArray).toList)=false:=by rw [beq_eq_false_iff_ne];exact fun h=>C12 (ba_inj h)
 have C12_n:(x5.toList !=(⟨#[111,110]⟩:ByteArray).toList)=true:=by rw [bne,C12_];rfl
 have C12_k:(x5.toList==([111,110]:List UInt8))=false:=by rw [show ([111,110]:List UInt8)=(⟨#[111,110]⟩:ByteArray).toList by rw [ba_toList]];exact C12_
 have C13_:(x5.toList==(⟨#[111,102,102]⟩:ByteArray).toList)=false:=by rw [beq_eq_false_iff_ne];exact fun h=>C13 (ba_inj h)
 have C13_n:(x5.toList !=(⟨#[111,102,102]⟩:ByteArray).toList)=true:=by rw [bne,C13_];rfl
 have C13_k:(x5.toList==([111,102,102]:List UInt8))=false:=by rw [show ([111,102,102]:List UInt8)=(⟨#[111,102,102]⟩:ByteArray).toList by rw [ba_toList]];exact C13_
 have C14_:(x5.toList==(⟨#[62,61]⟩:ByteArray).toList)=false:=by rw [beq_eq_false_iff_ne];exact fun h=>C14 (ba_inj h)
 have C14_n:(x5.toList !=(⟨#[62,61]⟩:ByteArray).toList)=true:=by rw [bne,C14_];rfl
 have C14_k:(x5.toList==([62,61]:List UInt8))=false:=by rw [show ([62,61]:List UInt8)=(⟨#[62,61]⟩:ByteArray).toList by rw [ba_toList]];exact C14_
 have C15_:(x5.toList==(⟨#[60,61]⟩:ByteArray).toList)=false:=by rw [beq_eq_false_iff_ne];exact fun h=>C15 (ba_inj h)
 have C15_n:(x5.toList !=(⟨#[60,61]⟩:ByteArray).toList)=true:=by rw [bne,C15_];rfl
 have C15_k:(x5.toList==([60,61]:List UInt8))=false:=by rw [show ([60,61]:List UInt8)=(⟨#[60,61]⟩:ByteArray).toList by rw [ba_toList]];exact C15_
 have C16_:2<W.length:=by omega
 obtain ⟨EL18,EG18⟩:=List.getElem?_eq_some_iff.1 E18
 simp only [ratV] at K19
 have C20_:(r31==0)=true:=by rw [C20];simp
 have C20_n:(r31 !=0)=false:=by rw [C20];simp
 have C24_:(r33.toList==a0.toList)=false:=by rw [beq_eq_false_iff_ne];exact fun h=>C24 (ba_inj h)
 have C24_n:(r33.toList !=a0.toList)=true:=by rw [bne,C24_];rfl
 rw [C22] at K21
 unfold run fnP
 simp+decide [hWl,hWi,hWm, Tryz.f14,M2_,C3,C3_,G4,EL5,EG5,E5,C6,C6_,C8,C8_,G10,EL11,EG11,E11,C12_,C12_n,C12_k,C13_,C13_n,C13_k,C14_,C14_n,C14_k,C15_,C15_n,C15_k,C16,C16_,G17,EL18,EG18,E18,K19,C20_,C20_n,K21,C22,K23,C24_,C24_n]
 rw [loopX_G (C':=fps4_C4) (e:=(fps4_h4 a0 [] (⟨#[]⟩:ByteArray) 0)) ?_ ?_,L1]
 rotate_left
 ·kernel_rfl
 ·simp+decide [hWl,hWi,hWm,fps4_h4,M2_,C3,C3_,G4,EL5,EG5,E5,C6,C6_,C8,C8_,G10,EL11,EG11,E11,C12_,C12_n,C12_k,C13_,C13_n,C13_k,C14_,C14_n,C14_k,C15_,C15_n,C15_k,C16,C16_,G17,EL18,EG18,E18,K19,C20_,C20_n,K21,C22,K23,C24_,C24_n]
 simp+decide [hWl,hWi,hWm,fps4_o4a,M2_,C3,C3_,G4,EL5,EG5,E5,C6,C6_,C8,C8_,G10,EL11,EG11,E11,C12_,C12_n,C12_k,C13_,C13_n,C13_k,C14_,C14_n,C14_k,C15_,C15_n,C15_k,C16,C16_,G17,EL18,EG18,E18,K19,C20_,C20_n,K21,C22,K23,C24_,C24_n]
 rw [loopX_G (C':=fps4_C15) (e:=(fps4_h15 a0 W 1 0)) ?_ ?_,L9]
 rotate_left
 ·kernel_rfl
 ·simp+decide [hWl,hWi,hWm,fps4_h15,M2_,C3,C3_,G4,EL5,EG5,E5,C6,C6_,C8,C8_,G10,EL11,EG11,E11,C12_,C12_n,C12_k,C13_,C13_n,C13_k,C14_,C14_n,C14_k,C15_,C15_n,C15_k,C16,C16_,G17,EL18,EG18,E18,K19,C20_,C20_n,K21,C22,K23,C24_,C24_n]
 simp+decide [hWl,hWi,hWm,fps4_o15a,M2_,C3,C3_,G4,EL5,EG5,E5,C6,C6_,C8,C8_,G10,EL11,EG11,E11,C12_,C12_n,C12_k,C13_,C13_n,C13_k,C14_,C14_n,C14_k,C15_,C15_n,C15_k,C16,C16_,G17,EL18,EG18,E18,K19,C20_,C20_n,K21,C22,K23,C24_,C24_n]
theorem fps4_f35{x:ByteArray}{i2_15:Int}{x5:ByteArray}{x10:ByteArray}{r29:Rat}{r30:Int}{r31:Int}{r32:Bool}{r33:ByteArray}(L1:loopG Tryz.prog (tab (n+43)) 0 118 (livesOf 14) 4 fps4_C4 (fps4_h4 a0 [] (⟨#[]⟩:ByteArray) 0)=some (.exit 0,fps4_o4a a0 out_4 str_4))(M2:W.length≤100000000)(C3:¬(W.length:Int)<2)(G4:0<W.length)(E5:W[0]?=some x)(C6:¬(x.size:Int)<2)(C8:¬6<(x.size:Int))(L9:loopG Tryz.prog (tab (n+43)) 0 118 (livesOf 14) 15 fps4_C15 (fps4_h15 a0 W 1 0)=some (.exit 2,fps4_o15a a0 W i2_15))(G10:1<W.length)(E11:W[1]?=some x5)(C12:¬x5=(⟨#[111,110]⟩:ByteArray))(C13:¬x5=(⟨#[111,102,102]⟩:ByteArray))(C14:¬x5=(⟨#[62,61]⟩:ByteArray))(C15:¬x5=(⟨#[60,61]⟩:ByteArray))(C16:2<(W.length:Int))(G17:2<W.length)(E18:W[2]?=some x10)(K19:run (n+42) 39 [.lit (.string x10)]=some (.tup [ratV r29,.lit (.int .i64 r30),.lit (.int .i64 r31)]))(C20:r31=0)(K21:run (n+42) 12 [.agg [.lit (.int .i64 0),.lit (.int .i64 i2_15),.lit (.bool (rawQ r29).s),natA (rawQ r29).l1,natA (rawQ r29).l2]]=some (.lit (.bool r32)))(C22:r32=true)(K23:run (n+42) 10 [.agg [.lit (.int .i64 0),.lit (.int .i64 i2_15),.lit (.bool (rawQ r29).s),natA (rawQ r29).l1,natA (rawQ r29).l2]]=some (.lit (.string r33)))(C24:r33=a0):
  run (n+43) 14 [.lit (.string a0)]=some (.tup [.agg [.lit (.int .i64 0),.lit (.int .i64 i2_15),.lit (.bool (rawQ r29).s),natA (rawQ r29).l1,natA (rawQ r29).l2],.lit (.int .i64 0)]):=by
 have hWl:out_4.length+1=W.length:=by rw [←hW,List.length_append];rfl
 have hWi:(out_4.length:Int)+1=(W.length:Int):=by omega
 have hWm:out_4.map strC++[[.lit (.string str_4)]]=W.map strC:=by rw [←hW,List.map_append];rfl
 have M2_:∀b,b≤10000→roomy (W.length) b=true:=fun b hb=>roomy_s M2 hb
 have C3_:¬W.length<2:=by omega
 obtain ⟨EL5,EG5⟩:=List.getElem?_eq_some_iff.1 E5
 have C6_:¬x.size<2:=by omega
 have C8_:¬6<x.size:=by omega
 obtain ⟨EL11,EG11⟩:=List.getElem?_eq_some_iff.1 E11
 have C12_:(x5.toList==(⟨#[111,110]⟩:ByteArray).toList)=false:=by rw [beq_eq_false_iff_ne];exact fun h=>C12 (ba_inj h)
 have C12_n:(x5.toList !=(⟨#[111,110]⟩:ByteArray).toList)=true:=by rw [bne,C12_];rfl
 have C12_k:(x5.toList==([111,110]:List UInt8))=false:=by rw [show ([111,110]:List UInt8)=(⟨#[111,110]⟩:ByteArray).toList by rw [ba_toList]];exact C12_
 have C13_:(x5.toList==(⟨#[111,102,102]⟩:ByteArray).toList)=false:=by rw [beq_eq_false_iff_ne];exact fun h=>C13 (ba_inj h)
 have C13_n:(x5.toList !=(⟨#[111,102,102]⟩:ByteArray).toList)=true:=by rw [bne,C13_];rfl
 have C13_k:(x5.toList==([111,102,102]:List UInt8))=false:=by rw [show ([111,102,102]:List UInt8)=(⟨#[111,102,102]⟩:ByteArray).toList by rw [ba_toList]];exact C13_
 have C14_:(x5.toList==(⟨#[62,61]⟩:ByteArray).toList)=false:=by rw [beq_eq_false_iff_ne];exact fun h=>C14 (ba_inj h)
 have C14_n:(x5.toList !=(⟨#[62,61]⟩:ByteArray).toList)=true:=by rw [bne,C14_];rfl
 have C14_k:(x5.toList==([62,61]:List UInt8))=false:=by rw [show ([62,61]:List UInt8)=(⟨#[62,61]⟩:ByteArray).toList by rw [ba_toList]];exact C14_
 have C15_:(x5.toList==(⟨#[60,61]⟩:ByteArray).toList)=false:=by rw [beq_eq_false_iff_ne];exact fun h=>C15 (ba_inj h)
 have C15_n:(x5.toList !=(⟨#[60,61]⟩:ByteArray).toList)=true:=by rw [bne,C15_];rfl
 have C15_k:(x5.toList==([60,61]:List UInt8))=false:=by rw [show ([60,61]:List UInt8)=(⟨#[60,61]⟩:ByteArray).toList by rw [ba_toList]];exact C15_
 have C16_:2<W.length:=by omega
 obtain ⟨EL18,EG18⟩:=List.getElem?_eq_some_iff.1 E18
 simp only [ratV] at K19
 have C20_:(r31==0)=true:=by rw [C20];simp
 have C20_n:(r31 !=0)=false:=by rw [C20];simp
 have C24_:(r33.toList==a0.toList)=true:=by rw [C24];simp
 have C24_n:(r33.toList !=a0.toList)=false:=by rw [bne,C24_];rfl
 rw [C22] at K21
 unfold run fnP
 simp+decide [hWl,hWi,hWm, Tryz.f14,M2_,C3,C3_,G4,EL5,EG5,E5,C6,C6_,C8,C8_,G10,EL11,EG11,E11,C12_,C12_n,C12_k,C13_,C13_n,C13_k,C14_,C14_n,C14_k,C15_,C15_n,C15_k,C16,C16_,G17,EL18,EG18,E18,K19,C20_,C20_n,K21,C22,K23,C24_,C24_n]
 rw [loopX_G (C':=fps4_C4) (e:=(fps4_h4 a0 [] (⟨#[]⟩:ByteArray) 0)) ?_ ?_,L1]
 rotate_left
 ·kernel_rfl
 ·simp+decide [hWl,hWi,hWm,fps4_h4,M2_,C3,C3_,G4,EL5,EG5,E5,C6,C6_,C8,C8_,G10,EL11,EG11,E11,C12_,C12_n,C12_k,C13_,C13_n,C13_k,C14_,C14_n,C14_k,C15_,C15_n,C15_k,C16,C16_,G17,EL18,EG18,E18,K19,C20_,C20_n,K21,C22,K23,C24_,C24_n]
 simp+decide [hWl,hWi,hWm,fps4_o4a,M2_,C3,C3_,G4,EL5,EG5,E5,C6,C6_,C8,C8_,G10,EL11,EG11,E11,C12_,C12_n,C12_k,C13_,C13_n,C13_k,C14_,C14_n,C14_k,C15_,C15_n,C15_k,C16,C16_,G17,EL18,EG18,E18,K19,C20_,C20_n,K21,C22,K23,C24_,C24_n]
 rw [loopX_G (C':=fps4_C15) (e:=(fps4_h15 a0 W 1 0)) ?_ ?_,L9]
 rotate_left
 ·kernel_rfl
 ·simp+decide [hWl,hWi,hWm,fps4_h15,M2_,C3,C3_,G4,EL5,EG5,E5,C6,C6_,C8,C8_,G10,EL11,EG11,E11,C12_,C12_n,C12_k,C13_,C13_n,C13_k,C14_,C14_n,C14_k,C15_,C15_n,C15_k,C16,C16_,G17,EL18,EG18,E18,K19,C20_,C20_n,K21,C22,K23,C24_,C24_n]
 simp+decide [hWl,hWi,hWm,fps4_o15a,M2_,C3,C3_,G4,EL5,EG5,E5,C6,C6_,C8,C8_,G10,EL11,EG11,E11,C12_,C12_n,C12_k,C13_,C13_n,C13_k,C14_,C14_n,C14_k,C15_,C15_n,C15_k,C16,C16_,G17,EL18,EG18,E18,K19,C20_,C20_n,K21,C22,K23,C24_,C24_n]
theorem fps4_f36{x:ByteArray}{i2_15:Int}{x5:ByteArray}{r34:Bool}(L1:loopG Tryz.prog (tab (n+43)) 0 118 (livesOf 14) 4 fps4_C4 (fps4_h4 a0 [] (⟨#[]⟩:ByteArray) 0)=some (.exit 0,fps4_o4a a0 out_4 str_4))(M2:W.length≤100000000)(C3:¬(W.length:Int)<2)(G4:0<W.length)(E5:W[0]?=some x)(C6:¬(x.size:Int)<2)(C8:¬6<(x.size:Int))(L9:loopG Tryz.prog (tab (n+43)) 0 118 (livesOf 14) 15 fps4_C15 (fps4_h15 a0 W 1 0)=some (.exit 2,fps4_o15a a0 W i2_15))(G10:1<W.length)(E11:W[1]?=some x5)(C12:¬x5=(⟨#[111,110]⟩:ByteArray))(C13:¬x5=(⟨#[111,102,102]⟩:ByteArray))(C14:¬x5=(⟨#[62,61]⟩:ByteArray))(C15:¬x5=(⟨#[60,61]⟩:ByteArray))(C16:¬2<(W.length:Int))(K17:run (n+42) 12 [.agg [.lit (.int .i64 0),.lit (.int .i64 i2_15),.lit (.bool false),.sl 1 [],.sl 1 []]]=some (.lit (.bool r34)))(C18:r34=false):
  run (n+43) 14 [.lit (.string a0)]=some (.tup [.agg [.lit (.int .i64 0),.lit (.int .i64 0),.lit (.bool false),.sl 1 [],.sl 1 []],.lit (.int .i64 4)]):=by
 have hWl:out_4.length+1=W.length:=by rw [←hW,List.length_append];rfl
 have hWi:(out_4.length:Int)+1=(W.length:Int):=by omega
 have hWm:out_4.map strC++[[.lit (.string str_4)]]=W.map strC:=by rw [←hW,List.map_append];rfl
 have M2_:∀b,b≤10000→roomy (W.length) b=true:=fun b hb=>roomy_s M2 hb
 have C3_:¬W.length<2:=by omega
 obtain ⟨EL5,EG5⟩:=List.getElem?_eq_some_iff.1 E5
 have C6_:¬x.size<2:=by omega
 have C8_:¬6<x.size:=by omega
 obtain ⟨EL11,EG11⟩:=List.getElem?_eq_some_iff.1 E11
 have C12_:(x5.toList==(⟨#[111,110]⟩:ByteArray).toList)=false:=by rw [beq_eq_false_iff_ne];exact fun h=>C12 (ba_inj h)
 have C12_n:(x5.toList !=(⟨#[111,110]⟩:ByteArray).toList)=true:=by rw [bne,C12_];rfl
 have C12_k:(x5.toList==([111,110]:List UInt8))=false:=by rw [show ([111,110]:List UInt8)=(⟨#[111,110]⟩:ByteArray).toList by rw [ba_toList]];exact C12_
 have C13_:(x5.toList==(⟨#[111,102,102]⟩:ByteArray).toList)=false:=by rw [beq_eq_false_iff_ne];exact fun h=>C13 (ba_inj h)
 have C13_n:(x5.toList !=(⟨#[111,102,102]⟩:ByteArray).toList)=true:=by rw [bne,C13_];rfl
 have C13_k:(x5.toList==([111,102,102]:List UInt8))=false:=by rw [show ([111,102,102]:List UInt8)=(⟨#[111,102,102]⟩:ByteArray).toList by rw [ba_toList]];exact C13_
 have C14_:(x5.toList==(⟨#[62,61]⟩:ByteArray).toList)=false:=by rw [beq_eq_false_iff_ne];exact fun h=>C14 (ba_inj h)
 have C14_n:(x5.toList !=(⟨#[62,61]⟩:ByteArray).toList)=true:=by rw [bne,C14_];rfl
 have C14_k:(x5.toList==([62,61]:List UInt8))=false:=by rw [show ([62,61]:List UInt8)=(⟨#[62,61]⟩:ByteArray).toList by rw [ba_toList]];exact C14_
 have C15_:(x5.toList==(⟨#[60,61]⟩:ByteArray).toList)=false:=by rw [beq_eq_false_iff_ne];exact fun h=>C15 (ba_inj h)
 have C15_n:(x5.toList !=(⟨#[60,61]⟩:ByteArray).toList)=true:=by rw [bne,C15_];rfl
 have C15_k:(x5.toList==([60,61]:List UInt8))=false:=by rw [show ([60,61]:List UInt8)=(⟨#[60,61]⟩:ByteArray).toList by rw [ba_toList]];exact C15_
 have C16_:¬2<W.length:=by omega
 rw [C18] at K17
 unfold run fnP
 simp+decide [hWl,hWi,hWm, Tryz.f14,M2_,C3,C3_,G4,EL5,EG5,E5,C6,C6_,C8,C8_,G10,EL11,EG11,E11,C12_,C12_n,C12_k,C13_,C13_n,C13_k,C14_,C14_n,C14_k,C15_,C15_n,C15_k,C16,C16_,K17,C18]
 rw [loopX_G (C':=fps4_C4) (e:=(fps4_h4 a0 [] (⟨#[]⟩:ByteArray) 0)) ?_ ?_,L1]
 rotate_left
 ·kernel_rfl
 ·simp+decide [hWl,hWi,hWm,fps4_h4,M2_,C3,C3_,G4,EL5,EG5,E5,C6,C6_,C8,C8_,G10,EL11,EG11,E11,C12_,C12_n,C12_k,C13_,C13_n,C13_k,C14_,C14_n,C14_k,C15_,C15_n,C15_k,C16,C16_,K17,C18]
 simp+decide [hWl,hWi,hWm,fps4_o4a,M2_,C3,C3_,G4,EL5,EG5,E5,C6,C6_,C8,C8_,G10,EL11,EG11,E11,C12_,C12_n,C12_k,C13_,C13_n,C13_k,C14_,C14_n,C14_k,C15_,C15_n,C15_k,C16,C16_,K17,C18]
 rw [loopX_G (C':=fps4_C15) (e:=(fps4_h15 a0 W 1 0)) ?_ ?_,L9]
 rotate_left
 ·kernel_rfl
 ·simp+decide [hWl,hWi,hWm,fps4_h15,M2_,C3,C3_,G4,EL5,EG5,E5,C6,C6_,C8,C8_,G10,EL11,EG11,E11,C12_,C12_n,C12_k,C13_,C13_n,C13_k,C14_,C14_n,C14_k,C15_,C15_n,C15_k,C16,C16_,K17,C18]
 simp+decide [hWl,hWi,hWm,fps4_o15a,M2_,C3,C3_,G4,EL5,EG5,E5,C6,C6_,C8,C8_,G10,EL11,EG11,E11,C12_,C12_n,C12_k,C13_,C13_n,C13_k,C14_,C14_n,C14_k,C15_,C15_n,C15_k,C16,C16_,K17,C18]
theorem fps4_f37{x:ByteArray}{i2_15:Int}{x5:ByteArray}{r34:Bool}{r35:ByteArray}(L1:loopG Tryz.prog (tab (n+43)) 0 118 (livesOf 14) 4 fps4_C4 (fps4_h4 a0 [] (⟨#[]⟩:ByteArray) 0)=some (.exit 0,fps4_o4a a0 out_4 str_4))(M2:W.length≤100000000)(C3:¬(W.length:Int)<2)(G4:0<W.length)(E5:W[0]?=some x)(C6:¬(x.size:Int)<2)(C8:¬6<(x.size:Int))(L9:loopG Tryz.prog (tab (n+43)) 0 118 (livesOf 14) 15 fps4_C15 (fps4_h15 a0 W 1 0)=some (.exit 2,fps4_o15a a0 W i2_15))(G10:1<W.length)(E11:W[1]?=some x5)(C12:¬x5=(⟨#[111,110]⟩:ByteArray))(C13:¬x5=(⟨#[111,102,102]⟩:ByteArray))(C14:¬x5=(⟨#[62,61]⟩:ByteArray))(C15:¬x5=(⟨#[60,61]⟩:ByteArray))(C16:¬2<(W.length:Int))(K17:run (n+42) 12 [.agg [.lit (.int .i64 0),.lit (.int .i64 i2_15),.lit (.bool false),.sl 1 [],.sl 1 []]]=some (.lit (.bool r34)))(C18:r34=true)(K19:run (n+42) 10 [.agg [.lit (.int .i64 0),.lit (.int .i64 i2_15),.lit (.bool false),.sl 1 [],.sl 1 []]]=some (.lit (.string r35)))(C20:¬r35=a0):
  run (n+43) 14 [.lit (.string a0)]=some (.tup [.agg [.lit (.int .i64 0),.lit (.int .i64 0),.lit (.bool false),.sl 1 [],.sl 1 []],.lit (.int .i64 4)]):=by
 have hWl:out_4.length+1=W.length:=by rw [←hW,List.length_append];rfl
 have hWi:(out_4.length:Int)+1=(W.length:Int):=by omega
 have hWm:out_4.map strC++[[.lit (.string str_4)]]=W.map strC:=by rw [←hW,List.map_append];rfl
 have M2_:∀b,b≤10000→roomy (W.length) b=true:=fun b hb=>roomy_s M2 hb
 have C3_:¬W.length<2:=by omega
 obtain ⟨EL5,EG5⟩:=List.getElem?_eq_some_iff.1 E5
 have C6_:¬x.size<2:=by omega
 have C8_:¬6<x.size:=by omega
 obtain ⟨EL11,EG11⟩:=List.getElem?_eq_some_iff.1 E11
 have C12_:(x5.toList==(⟨#[111,110]⟩:ByteArray).toList)=false:=by rw [beq_eq_false_iff_ne];exact fun h=>C12 (ba_inj h)
 have C12_n:(x5.toList !=(⟨#[111,110]⟩:ByteArray).toList)=true:=by rw [bne,C12_];rfl
 have C12_k:(x5.toList==([111,110]:List UInt8))=false:=by rw [show ([111,110]:List UInt8)=(⟨#[111,110]⟩:ByteArray).toList by rw [ba_toList]];exact C12_
 have C13_:(x5.toList==(⟨#[111,102,102]⟩:ByteArray).toList)=false:=by rw [beq_eq_false_iff_ne];exact fun h=>C13 (ba_inj h)
 have C13_n:(x5.toList !=(⟨#[111,102,102]⟩:ByteArray).toList)=true:=by rw [bne,C13_];rfl
 have C13_k:(x5.toList==([111,102,102]:List UInt8))=false:=by rw [show ([111,102,102]:List UInt8)=(⟨#[111,102,102]⟩:ByteArray).toList by rw [ba_toList]];exact C13_
 have C14_:(x5.toList==(⟨#[62,61]⟩:ByteArray).toList)=false:=by rw [beq_eq_false_iff_ne];exact fun h=>C14 (ba_inj h)
 have C14_n:(x5.toList !=(⟨#[62,61]⟩:ByteArray).toList)=true:=by rw [bne,C14_];rfl
 have C14_k:(x5.toList==([62,61]:List UInt8))=false:=by rw [show ([62,61]:List UInt8)=(⟨#[62,61]⟩:ByteArray).toList by rw [ba_toList]];exact C14_
 have C15_:(x5.toList==(⟨#[60,61]⟩:ByteArray).toList)=false:=by rw [beq_eq_false_iff_ne];exact fun h=>C15 (ba_inj h)
 have C15_n:(x5.toList !=(⟨#[60,61]⟩:ByteArray).toList)=true:=by rw [bne,C15_];rfl
 have C15_k:(x5.toList==([60,61]:List UInt8))=false:=by rw [show ([60,61]:List UInt8)=(⟨#[60,61]⟩:ByteArray).toList by rw [ba_toList]];exact C15_
 have C16_:¬2<W.length:=by omega
 have C20_:(r35.toList==a0.toList)=false:=by rw [beq_eq_false_iff_ne];exact fun h=>C20 (ba_inj h)
 have C20_n:(r35.toList !=a0.toList)=true:=by rw [bne,C20_];rfl
 rw [C18] at K17
 unfold run fnP
 simp+decide [hWl,hWi,hWm, Tryz.f14,M2_,C3,C3_,G4,EL5,EG5,E5,C6,C6_,C8,C8_,G10,EL11,EG11,E11,C12_,C12_n,C12_k,C13_,C13_n,C13_k,C14_,C14_n,C14_k,C15_,C15_n,C15_k,C16,C16_,K17,C18,K19,C20_,C20_n]
 rw [loopX_G (C':=fps4_C4) (e:=(fps4_h4 a0 [] (⟨#[]⟩:ByteArray) 0)) ?_ ?_,L1]
 rotate_left
 ·kernel_rfl
 ·simp+decide [hWl,hWi,hWm,fps4_h4,M2_,C3,C3_,G4,EL5,EG5,E5,C6,C6_,C8,C8_,G10,EL11,EG11,E11,C12_,C12_n,C12_k,C13_,C13_n,C13_k,C14_,C14_n,C14_k,C15_,C15_n,C15_k,C16,C16_,K17,C18,K19,C20_,C20_n]
 simp+decide [hWl,hWi,hWm,fps4_o4a,M2_,C3,C3_,G4,EL5,EG5,E5,C6,C6_,C8,C8_,G10,EL11,EG11,E11,C12_,C12_n,C12_k,C13_,C13_n,C13_k,C14_,C14_n,C14_k,C15_,C15_n,C15_k,C16,C16_,K17,C18,K19,C20_,C20_n]
 rw [loopX_G (C':=fps4_C15) (e:=(fps4_h15 a0 W 1 0)) ?_ ?_,L9]
 rotate_left
 ·kernel_rfl
 ·simp+decide [hWl,hWi,hWm,fps4_h15,M2_,C3,C3_,G4,EL5,EG5,E5,C6,C6_,C8,C8_,G10,EL11,EG11,E11,C12_,C12_n,C12_k,C13_,C13_n,C13_k,C14_,C14_n,C14_k,C15_,C15_n,C15_k,C16,C16_,K17,C18,K19,C20_,C20_n]
 simp+decide [hWl,hWi,hWm,fps4_o15a,M2_,C3,C3_,G4,EL5,EG5,E5,C6,C6_,C8,C8_,G10,EL11,EG11,E11,C12_,C12_n,C12_k,C13_,C13_n,C13_k,C14_,C14_n,C14_k,C15_,C15_n,C15_k,C16,C16_,K17,C18,K19,C20_,C20_n]
theorem fps4_f38{x:ByteArray}{i2_15:Int}{x5:ByteArray}{r34:Bool}{r35:ByteArray}(L1:loopG Tryz.prog (tab (n+43)) 0 118 (livesOf 14) 4 fps4_C4 (fps4_h4 a0 [] (⟨#[]⟩:ByteArray) 0)=some (.exit 0,fps4_o4a a0 out_4 str_4))(M2:W.length≤100000000)(C3:¬(W.length:Int)<2)(G4:0<W.length)(E5:W[0]?=some x)(C6:¬(x.size:Int)<2)(C8:¬6<(x.size:Int))(L9:loopG Tryz.prog (tab (n+43)) 0 118 (livesOf 14) 15 fps4_C15 (fps4_h15 a0 W 1 0)=some (.exit 2,fps4_o15a a0 W i2_15))(G10:1<W.length)(E11:W[1]?=some x5)(C12:¬x5=(⟨#[111,110]⟩:ByteArray))(C13:¬x5=(⟨#[111,102,102]⟩:ByteArray))(C14:¬x5=(⟨#[62,61]⟩:ByteArray))(C15:¬x5=(⟨#[60,61]⟩:ByteArray))(C16:¬2<(W.length:Int))(K17:run (n+42) 12 [.agg [.lit (.int .i64 0),.lit (.int .i64 i2_15),.lit (.bool false),.sl 1 [],.sl 1 []]]=some (.lit (.bool r34)))(C18:r34=true)(K19:run (n+42) 10 [.agg [.lit (.int .i64 0),.lit (.int .i64 i2_15),.lit (.bool false),.sl 1 [],.sl 1 []]]=some (.lit (.string r35)))(C20:r35=a0):
  run (n+43) 14 [.lit (.string a0)]=some (.tup [.agg [.lit (.int .i64 0),.lit (.int .i64 i2_15),.lit (.bool false),.sl 1 [],.sl 1 []],.lit (.int .i64 0)]):=by
 have hWl:out_4.length+1=W.length:=by rw [←hW,List.length_append];rfl
 have hWi:(out_4.length:Int)+1=(W.length:Int):=by omega
 have hWm:out_4.map strC++[[.lit (.string str_4)]]=W.map strC:=by rw [←hW,List.map_append];rfl
 have M2_:∀b,b≤10000→roomy (W.length) b=true:=fun b hb=>roomy_s M2 hb
 have C3_:¬W.length<2:=by omega
 obtain ⟨EL5,EG5⟩:=List.getElem?_eq_some_iff.1 E5
 have C6_:¬x.size<2:=by omega
 have C8_:¬6<x.size:=by omega
 obtain ⟨EL11,EG11⟩:=List.getElem?_eq_some_iff.1 E11
 have C12_:(x5.toList==(⟨#[111,110]⟩:ByteArray).toList)=false:=by rw [beq_eq_false_iff_ne];exact fun h=>C12 (ba_inj h)
 have C12_n:(x5.toList !=(⟨#[111,110]⟩:ByteArray).toList)=true:=by rw [bne,C12_];rfl
 have C12_k:(x5.toList==([111,110]:List UInt8))=false:=by rw [show ([111,110]:List UInt8)=(⟨#[111,110]⟩:ByteArray).toList by rw [ba_toList]];exact C12_
 have C13_:(x5.toList==(⟨#[111,102,102]⟩:ByteArray).toList)=false:=by rw [beq_eq_false_iff_ne];exact fun h=>C13 (ba_inj h)
 have C13_n:(x5.toList !=(⟨#[111,102,102]⟩:ByteArray).toList)=true:=by rw [bne,C13_];rfl
 have C13_k:(x5.toList==([111,102,102]:List UInt8))=false:=by rw [show ([111,102,102]:List UInt8)=(⟨#[111,102,102]⟩:ByteArray).toList by rw [ba_toList]];exact C13_
 have C14_:(x5.toList==(⟨#[62,61]⟩:ByteArray).toList)=false:=by rw [beq_eq_false_iff_ne];exact fun h=>C14 (ba_inj h)
 have C14_n:(x5.toList !=(⟨#[62,61]⟩:ByteArray).toList)=true:=by rw [bne,C14_];rfl
 have C14_k:(x5.toList==([62,61]:List UInt8))=false:=by rw [show ([62,61]:List UInt8)=(⟨#[62,61]⟩:ByteArray).toList by rw [ba_toList]];exact C14_
 have C15_:(x5.toList==(⟨#[60,61]⟩:ByteArray).toList)=false:=by rw [beq_eq_false_iff_ne];exact fun h=>C15 (ba_inj h)
 have C15_n:(x5.toList !=(⟨#[60,61]⟩:ByteArray).toList)=true:=by rw [bne,C15_];rfl
 have C15_k:(x5.toList==([60,61]:List UInt8))=false:=by rw [show ([60,61]:List UInt8)=(⟨#[60,61]⟩:ByteArray).toList by rw [ba_toList]];exact C15_
 have C16_:¬2<W.length:=by omega
 have C20_:(r35.toList==a0.toList)=true:=by rw [C20];simp
 have C20_n:(r35.toList !=a0.toList)=false:=by rw [bne,C20_];rfl
 rw [C18] at K17
 unfold run fnP
 simp+decide [hWl,hWi,hWm, Tryz.f14,M2_,C3,C3_,G4,EL5,EG5,E5,C6,C6_,C8,C8_,G10,EL11,EG11,E11,C12_,C12_n,C12_k,C13_,C13_n,C13_k,C14_,C14_n,C14_k,C15_,C15_n,C15_k,C16,C16_,K17,C18,K19,C20_,C20_n]
 rw [loopX_G (C':=fps4_C4) (e:=(fps4_h4 a0 [] (⟨#[]⟩:ByteArray) 0)) ?_ ?_,L1]
 rotate_left
 ·kernel_rfl
 ·simp+decide [hWl,hWi,hWm,fps4_h4,M2_,C3,C3_,G4,EL5,EG5,E5,C6,C6_,C8,C8_,G10,EL11,EG11,E11,C12_,C12_n,C12_k,C13_,C13_n,C13_k,C14_,C14_n,C14_k,C15_,C15_n,C15_k,C16,C16_,K17,C18,K19,C20_,C20_n]
 simp+decide [hWl,hWi,hWm,fps4_o4a,M2_,C3,C3_,G4,EL5,EG5,E5,C6,C6_,C8,C8_,G10,EL11,EG11,E11,C12_,C12_n,C12_k,C13_,C13_n,C13_k,C14_,C14_n,C14_k,C15_,C15_n,C15_k,C16,C16_,K17,C18,K19,C20_,C20_n]
 rw [loopX_G (C':=fps4_C15) (e:=(fps4_h15 a0 W 1 0)) ?_ ?_,L9]
 rotate_left
 ·kernel_rfl
 ·simp+decide [hWl,hWi,hWm,fps4_h15,M2_,C3,C3_,G4,EL5,EG5,E5,C6,C6_,C8,C8_,G10,EL11,EG11,E11,C12_,C12_n,C12_k,C13_,C13_n,C13_k,C14_,C14_n,C14_k,C15_,C15_n,C15_k,C16,C16_,K17,C18,K19,C20_,C20_n]
 simp+decide [hWl,hWi,hWm,fps4_o15a,M2_,C3,C3_,G4,EL5,EG5,E5,C6,C6_,C8,C8_,G10,EL11,EG11,E11,C12_,C12_n,C12_k,C13_,C13_n,C13_k,C14_,C14_n,C14_k,C15_,C15_n,C15_k,C16,C16_,K17,C18,K19,C20_,C20_n]
end
end
end
end Go.Proofs.YtnegdhjdienjlaaGreatDoor
