/- The calls on rational numbers as rows of the table of callees. -/
import Derived.Test.YtlpmemelhlnfbaaGreatDoorCm
import Derived.Test.YtlpmemelhlnfbaaGreatDoorCv
import Derived.Test.YtlpmemelhlnfbaaGreatDoorCx
set_option linter.all false
set_option linter.all false
namespace Go.Proofs.YtlpmemelhlnfbaaGreatDoor
open Go.RowKit
/-- the calls on rational numbers -/
noncomputable def orc0 : FuncId → Option Orc := (ext (ext (ext (ext (ext (ext (ext (ext (ext (ext (ext (ext (ext (ext (ext (ext (ext (ext (ext (ext (ext (ext (ext (ext (ext (ext (ext (ext (ext (ext (ext (ext (ext (ext (ext (ext (ext (ext (ext (ext noO 167 (.pure (o2 fun x y => ratA (x.q + y.q)))) 103 (.pure (o2 fun x y => ratA (x.q - y.q)))) 162 (.pure (o2 fun x y => ratA (x.q * y.q)))) 169 (.pure (o1 fun x => ratA (-x.q)))) 98 (.pure (o1 fun x => ratA x.q))) 39 (.pure (o1 fun x => .lit (.int .i64 (sgR x.q))))) 40 (.pure (o2 fun x y => .lit (.int .i64 (sgR (x.q - y.q)))))) 73 (.pure (o2 fun x y => .lit (.bool (decide (x.s = y.s ∧ x.l1 = y.l1 ∧ x.l2 = y.l2)))))) 118 (.pure (o1 fun x => .lit (.bool (decide (RatV x.s x.l1 x.l2)))))) 63 (.pure (oZ fun z => ratA (z : Rat)))) 116 (.pure (oZZ fun x y => .tup [ratA ((x : Rat) / (y : Rat)), .lit (.int .i64 0)]))) 136 (.pure (o2 fun x y => ratA (x.q + y.q)))) 166 (.pure (o2 fun x y => ratA (x.q * y.q)))) 141 (.pure (o1 fun x => ratA (-x.q)))) 135 (.pure (o1 fun x => ratA x.q))) 77 (.pure (o1 fun x => .lit (.int .i64 (sgR x.q))))) 139 (.pure (o1 fun x => .lit (.bool (decide (RatV x.s x.l1 x.l2)))))) 79 (.pure (oZ fun z => ratA (z : Rat)))) 205 (.pure (o2 fun x y => .lit (.int .i64 (sgR (x.q - y.q)))))) 178 (.pure (oU fun k => natA (lmb k)))) 215 (.pure (oN2 fun x y => natA (lmb (val x + val y))))) 154 (.pure (oN2 fun x y => natA (lmb (val x * val y))))) 196 (.pure (oN1 (fun _ => true) fun x => natA (lmb (val x))))) 199 (.pure (oND fun x y => .tup [natA (lmb (val x / val y)), natA (lmb (val x % val y)), .lit (.int .i64 0)]))) 209 (.pure (oN1 u64N fun x => .tup [.lit (.int .u64 (val x : Nat)), .lit (.bool true)]))) 128 (.pure (oU fun k => natA (lmb k)))) 182 (.pure (oN1 (fun _ => true) fun x => natA (lmb (val x))))) 183 (.pure (oND fun x y => .tup [natA (lmb (val x / val y)), natA (lmb (val x % val y)), .lit (.int .i64 0)]))) 184 (.pure (oN1 u64N fun x => .tup [.lit (.int .u64 (val x : Nat)), .lit (.bool true)]))) 160 (.pure (oN2 fun x y => natA (lmb (val x * val y))))) 155 (.pure (o1 fun x => natA (unL x.l2)))) 161 (.pure (oN1 (fun _ => true) fun x => natA (lmb (dn x))))) 153 (.pure (oQt))) 159 (.pure (oQt))) 210 (.pure (oFU))) 177 (.pure (oIB))) 93 (.pure (oItoa))) 211 (.pure (oRepeat))) 213 (.pure (oJoin))) 146 (.lin [true] ccG))
theorem orc0_ok : OrcOk Tryz.prog orc0 := by
  refine OrcOk.extL (OrcOk.extP (OrcOk.extP (OrcOk.extP (OrcOk.extP (OrcOk.extP (OrcOk.extP (OrcOk.extP (OrcOk.extP (OrcOk.extP (OrcOk.extP (OrcOk.extP (OrcOk.extP (OrcOk.extP (OrcOk.extP (OrcOk.extP (OrcOk.extP (OrcOk.extP (OrcOk.extP (OrcOk.extP (OrcOk.extP (OrcOk.extP (OrcOk.extP (OrcOk.extP (OrcOk.extP (OrcOk.extP (OrcOk.extP (OrcOk.extP (OrcOk.extP (OrcOk.extP (OrcOk.extP (OrcOk.extP (OrcOk.extP (OrcOk.extP (OrcOk.extP (OrcOk.extP (OrcOk.extP (OrcOk.extP (OrcOk.extP (OrcOk.extP OrcOk.none (by kernel_rfl) ?_) (by kernel_rfl) ?_) (by kernel_rfl) ?_) (by kernel_rfl) ?_) (by kernel_rfl) ?_) (by kernel_rfl) ?_) (by kernel_rfl) ?_) (by kernel_rfl) ?_) (by kernel_rfl) ?_) (by kernel_rfl) ?_) (by kernel_rfl) ?_) (by kernel_rfl) ?_) (by kernel_rfl) ?_) (by kernel_rfl) ?_) (by kernel_rfl) ?_) (by kernel_rfl) ?_) (by kernel_rfl) ?_) (by kernel_rfl) ?_) (by kernel_rfl) ?_) (by kernel_rfl) ?_) (by kernel_rfl) ?_) (by kernel_rfl) ?_) (by kernel_rfl) ?_) (by kernel_rfl) ?_) (by kernel_rfl) ?_) (by kernel_rfl) ?_) (by kernel_rfl) ?_) (by kernel_rfl) ?_) (by kernel_rfl) ?_) (by kernel_rfl) ?_) (by kernel_rfl) ?_) (by kernel_rfl) ?_) (by kernel_rfl) ?_) (by kernel_rfl) ?_) (by kernel_rfl) ?_) (by kernel_rfl) ?_) (by kernel_rfl) ?_) (by kernel_rfl) ?_) (by kernel_rfl) ?_) (by kernel_rfl) ?_
  · exact con2 fun w x y a1 a2 a3 a4 n1 c1 n2 c2 n3 c3 n4 c4 h1 h2 h3 h4 b1 b2 b3 b4 => (fradd_any w h1 h2 h3 h4 (by omega) (by omega) (by omega) (by omega)).mono fun _ _ h => h.ret
  · exact con2 fun w x y a1 a2 a3 a4 n1 c1 n2 c2 n3 c3 n4 c4 h1 h2 h3 h4 b1 b2 b3 b4 => (frsub_any w h1 h2 h3 h4 (by omega) (by omega) (by omega) (by omega)).mono fun _ _ h => h.ret
  · exact con2 fun w x y a1 a2 a3 a4 n1 c1 n2 c2 n3 c3 n4 c4 h1 h2 h3 h4 b1 b2 b3 b4 => (frmul_any w h1 h2 h3 h4 (by omega) (by omega) (by omega) (by omega)).mono fun _ _ h => h.ret
  · exact con1 fun w x a1 a2 n1 c1 n2 c2 h1 h2 b1 b2 => (fneg_any w h1 h2 (by omega) (by omega)).mono fun _ _ h => h.ret
  · exact con1 fun w x a1 a2 n1 c1 n2 c2 h1 h2 b1 b2 => (fcanon_any w h1 h2 (by omega) (by omega)).mono fun _ _ h => h.ret
  · exact con1 fun w x a1 a2 n1 c1 n2 c2 h1 h2 b1 b2 => (fsign_any w x.l2 h1 (by omega)).mono fun _ _ h => h.ret
  · exact con2 fun w x y a1 a2 a3 a4 n1 c1 n2 c2 n3 c3 n4 c4 h1 h2 h3 h4 b1 b2 b3 b4 => (frcmp_any w h1 h2 h3 h4 (by omega) (by omega) (by omega) (by omega)).mono fun _ _ h => h.ret
  · exact con2 fun w x y a1 a2 a3 a4 n1 c1 n2 c2 n3 c3 n4 c4 h1 h2 h3 h4 b1 b2 b3 b4 => (frsame_any w h1 h2 h3 h4 (by omega) (by omega) (by omega) (by omega)).mono fun _ _ h => h.ret
  · exact con1 fun w x a1 a2 n1 c1 n2 c2 h1 h2 b1 b2 => (fvalid_any w h1 h2 (by omega) (by omega)).mono fun _ _ h => h.ret
  · exact con_of_z
  · exact con_frac
  · exact con2 fun w x y a1 a2 a3 a4 n1 c1 n2 c2 n3 c3 n4 c4 h1 h2 h3 h4 b1 b2 b3 b4 => (radd_any w h1 h2 h3 h4 (by omega) (by omega) (by omega) (by omega)).mono fun _ _ h => h.ret
  · exact con2 fun w x y a1 a2 a3 a4 n1 c1 n2 c2 n3 c3 n4 c4 h1 h2 h3 h4 b1 b2 b3 b4 => (rmul_any w h1 h2 h3 h4 (by omega) (by omega) (by omega) (by omega)).mono fun _ _ h => h.ret
  · exact con1 fun w x a1 a2 n1 c1 n2 c2 h1 h2 b1 b2 => (rneg_any w h1 h2 (by omega) (by omega)).mono fun _ _ h => h.ret
  · exact con1 fun w x a1 a2 n1 c1 n2 c2 h1 h2 b1 b2 => (canon_any w h1 h2 (by omega) (by omega)).mono fun _ _ h => h.ret
  · exact con1 fun w x a1 a2 n1 c1 n2 c2 h1 h2 b1 b2 => (rsign_any w x.l2 h1 (by omega)).mono fun _ _ h => h.ret
  · exact con1 fun w x a1 a2 n1 c1 n2 c2 h1 h2 b1 b2 => (rvalid_any w h1 h2 (by omega) (by omega)).mono fun _ _ h => h.ret
  · exact con_of_zp
  · exact con_pcmp
  · exact con_nof
  · exact con_nadd
  · exact con_nmul
  · exact con_nmake
  · exact con_ndiv
  · exact con_nuint
  · exact con_fnof
  · exact con_fnmake
  · exact con_fndiv
  · exact con_fnuint
  · exact con_fnmul
  · exact con_under
  · exact con_fone
  · exact con_quot
  · exact con_fquot
  · exact con_fu
  · exact con_ib
  · exact con_itoa
  · exact con_repeat
  · exact con_join
  · exact con_cc
end Go.Proofs.YtlpmemelhlnfbaaGreatDoor
