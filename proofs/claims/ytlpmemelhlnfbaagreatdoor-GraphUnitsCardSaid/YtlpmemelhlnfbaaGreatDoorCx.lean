/- The quotients of natural numbers and relucertref01.Mul, as rows of the table of callees. -/
import Derived.Test.YtlpmemelhlnfbaaGreatDoorCv
set_option linter.all false
set_option linter.all false
set_option maxRecDepth 100000
namespace Go.Proofs.YtlpmemelhlnfbaaGreatDoor
open Go.RowKit

theorem rv_list3 {R : AV → Value → Prop} {a b c : AV} {vs : Array Value} (h : RV R [a, b, c] vs.toList) : ∃ v u t, vs = #[v, u, t] ∧ R a v ∧ R b u ∧ R c t := by
  obtain ⟨h1, h2⟩ := h
  obtain ⟨u, h3, h4⟩ := h2 0 a rfl
  obtain ⟨u', h5, h6⟩ := h2 1 b rfl
  obtain ⟨u2, h7, h8⟩ := h2 2 c rfl
  refine ⟨u, u', u2, ?_, h4, h6, h8⟩
  apply Array.toList_inj.1
  match hv : vs.toList, h1 with
  | [x, y, z], _ => rw [hv] at h3 h5 h7; simp at h3 h5 h7; rw [h3, h5, h7]
/-- a sign and two lists of limbs as arguments: the quotient as a number -/
def oQt : List AV → Option AV
  | [.lit (.bool b), a, c] => match decN a, decN c with
    | some x, some y => if fewN x && fewN y && Nat.blt 0 (val y) then some (ratA (mkRat (sgi b (val x)) (val y))) else none
    | _, _ => none
  | _ => none
theorem conQt {P : Program} {f : FuncId} (h : ∀ (w : World) (b : Bool) (x y : List Nat) (a1 a2 : Option Addr) (n1 c1 n2 c2 : Nat), LimR w a1 n1 c1 x → LimR w a2 n2 c2 y → n1 ≤ 68719476736 → n2 ≤ 68719476736 → 0 < val y → Calls P f #[.bool b, .slice a1 n1 c1, .slice a2 n2 c2] w (Ret (ratA (mkRat (sgi b (val x)) (val y))) w)) : ∀ args r, oQt args = some r → Con P f args r := by
  intro args r hr
  unfold oQt at hr
  split at hr
  · rename_i b a c
    split at hr
    · rename_i x y hx hy
      split at hr
      · rename_i hfew
        cases hr
        simp only [Bool.and_eq_true] at hfew
        refine con_ret fun w ok vs hv => ?_
        obtain ⟨v, u, t, rfl, hv0, hv1, hv2⟩ := rv_list3 hv
        cases hv0
        obtain ⟨a1, n1, c1, rfl, h1⟩ := decN_sound hv1 hx
        obtain ⟨a2, n2, c2, rfl, h2⟩ := decN_sound hv2 hy
        exact h w b x y a1 a2 n1 c1 n2 c2 h1 h2 (few_of hfew.1.1 h1.len) (few_of hfew.1.2 h2.len) (Nat.le_of_ble_eq_true hfew.2)
      · cases hr
    · cases hr
  · cases hr
theorem con_quot : ∀ args r, oQt args = some r → Con Tryz.prog 153 args r := conQt fun w b x y a1 a2 n1 c1 n2 c2 h1 h2 b1 b2 hd => (quot_any w h1 h2 (by omega) (by omega) hd).mono fun _ _ h => h.ret
theorem con_fquot : ∀ args r, oQt args = some r → Con Tryz.prog 159 args r := conQt fun w b x y a1 a2 n1 c1 n2 c2 h1 h2 b1 b2 hd => (fquot_any w h1 h2 (by omega) (by omega) hd).mono fun _ _ h => h.ret
theorem con_fnmul : ∀ args r, oN2 (fun x y => natA (lmb (val x * val y))) args = some r → Con Tryz.prog 160 args r := conN2 fun w x y a1 a2 n1 c1 n2 c2 h1 h2 b1 b2 => (fmul_any w h1 h2 (by omega) (by omega)).mono fun _ _ h => h.ret
/-- the limbs of the denominator of a number that need not be canonical -/
def unL (l : List Nat) : List Nat := if val l = 0 then [1] else l
set_option maxHeartbeats 800000 in
theorem underL_any (w : World) {neg : Bool} {a1 a2 : Option Addr} {n1 n2 c1 c2 : Nat} {l : List Nat} (h : LimR w a2 n2 c2 l) (hn : n2 ≤ 17592186044416) :
    Calls Tryz.prog 155 #[.agg #[.bool neg, .slice a1 n1 c1, .slice a2 n2 c2]] w (Ret (natA (unL l)) w) := by
  have hb0 : Below w.heap.size w (w.alloc (.cells #[.bool neg, .slice a1 n1 c1, .slice a2 n2 c2] 27)) := (Below.refl _ _).alloc (Nat.le_refl _) _
  have h' := h.on hb0
  go_enter Tryz.func155, Tryz.ntmps155
  go_wp2_with fail
  refine (nbits_any _ h' (by omega)).mono ?_
  rintro e w1 ⟨b, rfl, hb, HB, rfl⟩
  by_cases hz : b = 0
  · have HZ : Hid (val l = 0) := HB.out.1 hz
    subst hz
    go_wp2_with fail
    refine (rone_any _).mono ?_
    rintro e w1 ⟨ad3, n3, c3, rfl, g3, hb3⟩
    go_wp2_with fail
    go_ret
    refine ⟨_, rfl, ?_, hb0.trans (hb3.mono hb0.size)⟩
    unfold unL
    rw [if_pos HZ.out, ← lmb_one]
    exact natA_rep g3
  · have HZ : Hid (val l ≠ 0) := fun e => hz (HB.out.2 e)
    have e1 : (b == 0) = false := by simp; exact hz
    clear hz
    go_wp2_with fail
    go_ret
    refine ⟨_, rfl, ?_, hb0⟩
    unfold unL
    rw [if_neg HZ.out]
    exact natA_rep h'
theorem con_under : ∀ args r, (o1 fun x => natA (unL x.l2)) args = some r → Con Tryz.prog 155 args r := con1 fun w x a1 a2 n1 c1 n2 c2 h1 h2 b1 b2 => underL_any w h2 (by omega)
theorem con_fone : ∀ args r, (oN1 (fun _ => true) fun x => natA (lmb (dn x))) args = some r → Con Tryz.prog 161 args r := conN1 fun w x a n c h b _ => (fone_any w h (by omega)).mono fun _ _ h => h.ret
end Go.Proofs.YtlpmemelhlnfbaaGreatDoor
