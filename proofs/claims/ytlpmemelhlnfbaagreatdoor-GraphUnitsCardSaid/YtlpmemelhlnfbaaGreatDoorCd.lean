/- The calls on rational numbers as a table of callees; tables grow by functions that are run abstractly. -/
import Derived.Test.YtlpmemelhlnfbaaGreatDoorCa
import Derived.Test.YtlpmemelhlnfbaaGreatDoorCc
import Derived.Test.YtlpmemelhlnfbaaGreatDoorK6
import Derived.Test.YtlpmemelhlnfbaaGreatDoorQ3
set_option linter.all false
set_option linter.all false
namespace Go.Proofs.YtlpmemelhlnfbaaGreatDoor
open Go.RowKit

/-- one callee more -/
def ext (O : FuncId → Option Orc) (f : FuncId) (x : Orc) (g : FuncId) : Option Orc := if g = f then some x else O g
section
variable {P : Program} {O : FuncId → Option Orc} {f : FuncId}
theorem OrcOk.none : OrcOk P noO := ⟨fun f g h => (by cases h), fun f ms g h => (by cases h)⟩
theorem OrcOk.extP (h : OrcOk P O) (hp : plainF P f = true) {g : List AV → Option AV} (hc : ∀ args r, g args = some r → Con P f args r) : OrcOk P (ext O f (.pure g)) := by
  refine ⟨fun f' g' h' => ?_, fun f' ms g' h' => ?_⟩
  · unfold ext at h'
    split at h'
    · rename_i e; subst e; cases h'; exact ⟨hp, hc⟩
    · exact h.pure f' g' h'
  · unfold ext at h'
    split at h'
    · cases h'
    · exact h.lin f' ms g' h'
theorem OrcOk.extL (h : OrcOk P O) (hp : plainF P f = true) {ms : List Bool} {g : List AV → List AB → Option (AV × List (Nat × AB))} (hc : ∀ bin args r outs, g args bin = some (r, outs) → ConL P f bin args r outs) : OrcOk P (ext O f (.lin ms g)) := by
  refine ⟨fun f' g' h' => ?_, fun f' ms' g' h' => ?_⟩
  · unfold ext at h'
    split at h'
    · cases h'
    · exact h.pure f' g' h'
  · unfold ext at h'
    split at h'
    · rename_i e; subst e; cases h'; exact ⟨hp, hc⟩
    · exact h.lin f' ms' g' h'
/-- the function f, run abstractly over the table O -/
noncomputable def fnP (P : Program) (O : FuncId → Option Orc) (lives : Nat → List Nat) (fuel : Nat) (fn : Func) : List AV → Option AV := absFn P O lives fuel fn.ntmps fn.results.toList (bodyOf fn)
noncomputable def fnL (P : Program) (O : FuncId → Option Orc) (lives : Nat → List Nat) (fuel : Nat) (fn : Func) (keep : Bool) : List AV → List AB → Option (AV × List (Nat × AB)) := absL P O lives fuel fn.ntmps fn.results.toList (bodyOf fn) keep
theorem body_some {fn : Func} (h : plainF P f = true) (hf : P.funcs[f]? = some fn) : fn.body = some (bodyOf fn) := by
  unfold plainF at h
  rw [hf] at h
  simp only [Bool.and_eq_true] at h
  obtain ⟨c, hc⟩ := Option.isSome_iff_exists.1 h.2
  simp [bodyOf, hc]
theorem OrcOk.fnP (h : OrcOk P O) (hm : P.follows .mixedOrders = true) {fn : Func} (hf : P.funcs[f]? = some fn) (hp : plainF P f = true) (lives : Nat → List Nat) (fuel : Nat) : OrcOk P (ext O f (.pure (fnP P O lives fuel fn))) :=
  h.extP hp fun args r hr => con_of h hm hf (body_some hp hf) hr
theorem OrcOk.fnL (h : OrcOk P O) (hm : P.follows .mixedOrders = true) {fn : Func} (hf : P.funcs[f]? = some fn) (hp : plainF P f = true) (ms : List Bool) (lives : Nat → List Nat) (fuel : Nat) (keep : Bool) : OrcOk P (ext O f (.lin ms (fnL P O lives fuel fn keep))) :=
  h.extL hp fun bin args r outs hr => conL_of h hm hf (body_some hp hf) hr
end
theorem RetMk.ret {q : Rat} {w w' : World} {e : Ending} (h : RetMk q w e w') : Ret (.tup [ratA q, .lit (.int .i64 0)]) w e w' := by
  obtain ⟨s, a1, n1, c1, a2, n2, c2, rfl, h1, h2⟩ := h
  refine ⟨_, rfl, .tup rfl fun i d hi => ?_, h2⟩
  match i, hi with
  | 0, hi => cases hi; exact ratC_rep h1
  | 1, hi => cases hi; exact .lit _
  | i + 2, hi => simp at hi
theorem mixed : Tryz.prog.follows .mixedOrders = true := by kernel_rfl
theorem con_of_z : ∀ args r, oZ (fun z => ratA (z : Rat)) args = some r → Con Tryz.prog 63 args r := fun args r hr => by
  unfold oZ at hr
  split at hr
  · rename_i z
    split at hr
    · rename_i hz
      cases hr
      refine con_ret fun w ok vs hv => ?_
      obtain ⟨v, rfl, hv1⟩ := rv_list1 hv
      cases hv1
      exact (frof_any w z hz.1 hz.2).mono fun _ _ h => h.ret
    · cases hr
  · cases hr
theorem con_frac : ∀ args r, oZZ (fun x y => .tup [ratA ((x : Rat) / (y : Rat)), .lit (.int .i64 0)]) args = some r → Con Tryz.prog 116 args r := fun args r hr => by
  unfold oZZ at hr
  split at hr
  · rename_i x y
    split at hr
    · rename_i hz
      cases hr
      refine con_ret fun w ok vs hv => ?_
      obtain ⟨v, u, rfl, hv1, hv2⟩ := rv_list2 hv
      cases hv1
      cases hv2
      exact (frac_c w hz.1.1 hz.1.2 hz.2.1.1 hz.2.1.2 hz.2.2).mono fun _ _ h => h.ret
    · cases hr
  · cases hr
-- limbs, bytes and feeds are not looked into
@[simp] theorem natA_cellsOf (l : List Nat) : (natA l).cellsOf = some [natA l] := rfl
@[simp] theorem natA_notU (l : List Nat) : (natA l).notU = true := rfl
@[simp] theorem natA_isT (l : List Nat) : (natA l).isT = true := rfl
@[simp] theorem natA_refs (l : List Nat) : (natA l).refs = [] := rfl
@[simp] theorem natA_ren (ρ : Nat → Option Nat) (l : List Nat) : (natA l).ren ρ = natA l := rfl
@[simp] theorem natA_res (n : Nat) (l : List Nat) (k : AV → List Nat → Tr) : res n (natA l) k = k (natA l) [] := by cases n <;> rfl
@[simp] theorem natA_resN (n : Nat) (l : List Nat) (k : AV → List Nat → Tr) : resN n (natA l) k = k (natA l) [] := by cases n <;> rfl
@[simp] theorem natA_resA (n : Nat) (l : List Nat) (cs acc : List AV) (fa : List Nat) (k : List AV → List Nat → Tr) : resA (res n) (natA l :: cs) acc fa k = resA (res n) cs (acc ++ [natA l]) fa k := resA_stay (fun k => by cases n <;> rfl) _ _ _ _
@[simp] theorem natA_resAN (n : Nat) (l : List Nat) (cs acc : List AV) (fa : List Nat) (k : List AV → List Nat → Tr) : resA (resN n) (natA l :: cs) acc fa k = resA (resN n) cs (acc ++ [natA l]) fa k := resA_stay (fun k => by cases n <;> rfl) _ _ _ _
@[simp] theorem natA_lenT (P : Program) (t : TypeId) (l : List Nat) : lenT P t (natA l) = if (elOf P t).isSome = true then some l.length else none := by simp [natA, lenT]
@[simp] theorem natA_linC (l : List Nat) (cs : List AV) (i : Nat) (k : List AV → List Nat → List Nat → Tr) : linC (natA l :: cs) i k = linC cs i fun us ids fs => k (natA l :: us) ids fs := rfl
@[simp] theorem natA_nz (l : List Nat) : (natA l).nz = natA l := rfl
@[simp] theorem feedB_isT (bs : List Int) (k : Nat) : (feedB bs k).isT = true := rfl
theorem ratA_def (q : Rat) : ratA q = .agg [.lit (.bool (rawQ q).s), natA (rawQ q).l1, natA (rawQ q).l2] := rfl
def dd (y : Int) : Int := if y = 2 then 2 else if y = 3 then 4 else 1
/-- what Number returns, and how far the feed is then -/
def numN (bs : List Int) (k : Nat) : Rat × Nat := (((((nextN bs k 9).1 - 4 : Int) : Rat) / ((dd (nextN bs (nextN bs k 9).2 4).1 : Int) : Rat)), (nextN bs (nextN bs k 9).2 4).2)
end Go.Proofs.YtlpmemelhlnfbaaGreatDoor
