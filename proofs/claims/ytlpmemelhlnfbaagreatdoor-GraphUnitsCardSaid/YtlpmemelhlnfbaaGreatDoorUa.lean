/- Numbers and forms as abstract values; the calls on numbers in the table of callees. -/
import Derived.Test.YtlpmemelhlnfbaaGreatDoorTb
import Derived.Test.YtlpmemelhlnfbaaGreatDoorKF
set_option linter.all false
set_option linter.all false
namespace Go.Proofs.YtlpmemelhlnfbaaGreatDoor
open Go.RowKit

/-- a number, a term, a form, lists of them -/
def ratC (q : Rat) : List AV := [.lit (.bool (rawQ q).s), natA (rawQ q).l1, natA (rawQ q).l2]
def termC (t : Int × Rat) : List AV := [.lit (.int .i64 t.1), .lit (.bool (rawQ t.2).s), natA (rawQ t.2).l1, natA (rawQ t.2).l2]
abbrev Form := List (Int × Rat) × Rat
def formC (f : Form) : List AV := [.sl 4 (f.1.map termC), .lit (.bool (rawQ f.2).s), natA (rawQ f.2).l1, natA (rawQ f.2).l2]
theorem roomy_s {n b : Nat} (h : n ≤ 100000000) (hb : b ≤ 10000) : roomy n b = true := by
  unfold roomy
  have : n * b ≤ 100000000 * 10000 := Nat.mul_le_mul h hb
  rw [Bool.and_eq_true]
  exact ⟨decide_eq_true (by omega), decide_eq_true (by omega)⟩
theorem o1_rat {F : Raw → AV} {q : Rat} (h : H q ≤ 17179869184) : o1 F [ratA q] = some (F (rawQ q)) := by
  have h1 : (rawQ q).few = true := by
    have a1 : (lmb q.num.natAbs).length ≤ H q := Nat.le_max_left _ _
    have a2 : (dlmb q.den).length ≤ H q := Nat.le_trans (dlmb_len _) (Nat.le_max_right _ _)
    unfold Raw.few rawQ
    rw [Bool.and_eq_true]
    exact ⟨Nat.ble_eq_true_of_le (by dsimp only; omega), Nat.ble_eq_true_of_le (by dsimp only; omega)⟩
  simp only [o1, decR_rat, h1, if_true]
theorem o2_rat {F : Raw → Raw → AV} {p q : Rat} (hp : H p ≤ 17179869184) (hq : H q ≤ 17179869184) : o2 F [ratA p, ratA q] = some (F (rawQ p) (rawQ q)) := by
  have few : ∀ {q : Rat}, H q ≤ 17179869184 → (rawQ q).few = true := fun {q} h => by
    have a1 : (lmb q.num.natAbs).length ≤ H q := Nat.le_max_left _ _
    have a2 : (dlmb q.den).length ≤ H q := Nat.le_trans (dlmb_len _) (Nat.le_max_right _ _)
    unfold Raw.few rawQ
    rw [Bool.and_eq_true]
    exact ⟨Nat.ble_eq_true_of_le (by dsimp only; omega), Nat.ble_eq_true_of_le (by dsimp only; omega)⟩
  simp only [o2, decR_rat, few hp, few hq, Bool.and_self, if_true]
/-- the same, as the run meets its arguments -/
theorem o1_agg {F : Raw → AV} {q : Rat} (h : H q ≤ 17179869184) : o1 F [.agg [.lit (.bool (rawQ q).s), natA (rawQ q).l1, natA (rawQ q).l2]] = some (F (rawQ q)) := o1_rat h
theorem o2_agg {F : Raw → Raw → AV} {p q : Rat} (hp : H p ≤ 17179869184) (hq : H q ≤ 17179869184) : o2 F [.agg [.lit (.bool (rawQ p).s), natA (rawQ p).l1, natA (rawQ p).l2], .agg [.lit (.bool (rawQ q).s), natA (rawQ q).l1, natA (rawQ q).l2]] = some (F (rawQ p) (rawQ q)) := o2_rat hp hq
noncomputable def fAdd : List AV → Option AV := o2 fun x y => ratA (x.q + y.q)
@[simp] theorem tn_add (n : Nat) : tab n 167 = some (.pure fAdd) := tab_num rfl n
@[simp] theorem tn_padd (n : Nat) : tab n 136 = some (.pure fAdd) := tab_num rfl n
noncomputable def fSub : List AV → Option AV := o2 fun x y => ratA (x.q - y.q)
@[simp] theorem tn_sub (n : Nat) : tab n 103 = some (.pure fSub) := tab_num rfl n
noncomputable def fMul : List AV → Option AV := o2 fun x y => ratA (x.q * y.q)
@[simp] theorem tn_mul (n : Nat) : tab n 162 = some (.pure fMul) := tab_num rfl n
@[simp] theorem tn_pmul (n : Nat) : tab n 166 = some (.pure fMul) := tab_num rfl n
noncomputable def fNeg : List AV → Option AV := o1 fun x => ratA (-x.q)
@[simp] theorem tn_neg (n : Nat) : tab n 169 = some (.pure fNeg) := tab_num rfl n
@[simp] theorem tn_pneg (n : Nat) : tab n 141 = some (.pure fNeg) := tab_num rfl n
noncomputable def fCanon : List AV → Option AV := o1 fun x => ratA x.q
@[simp] theorem tn_canon (n : Nat) : tab n 98 = some (.pure fCanon) := tab_num rfl n
@[simp] theorem tn_pcanon (n : Nat) : tab n 135 = some (.pure fCanon) := tab_num rfl n
noncomputable def fSign : List AV → Option AV := o1 fun x => .lit (.int .i64 (sgR x.q))
@[simp] theorem tn_sign (n : Nat) : tab n 39 = some (.pure fSign) := tab_num rfl n
@[simp] theorem tn_psign (n : Nat) : tab n 77 = some (.pure fSign) := tab_num rfl n
noncomputable def fCmp : List AV → Option AV := o2 fun x y => .lit (.int .i64 (sgR (x.q - y.q)))
@[simp] theorem tn_cmp (n : Nat) : tab n 40 = some (.pure fCmp) := tab_num rfl n
@[simp] theorem tn_pcmp (n : Nat) : tab n 205 = some (.pure fCmp) := tab_num rfl n
noncomputable def fSame : List AV → Option AV := o2 fun x y => .lit (.bool (decide (x.s = y.s ∧ x.l1 = y.l1 ∧ x.l2 = y.l2)))
@[simp] theorem tn_same (n : Nat) : tab n 73 = some (.pure fSame) := tab_num rfl n
noncomputable def fValid : List AV → Option AV := o1 fun x => .lit (.bool (decide (RatV x.s x.l1 x.l2)))
@[simp] theorem tn_valid (n : Nat) : tab n 118 = some (.pure fValid) := tab_num rfl n
@[simp] theorem tn_pvalid (n : Nat) : tab n 139 = some (.pure fValid) := tab_num rfl n
noncomputable def fOf : List AV → Option AV := oZ fun z => ratA (z : Rat)
@[simp] theorem tn_of (n : Nat) : tab n 63 = some (.pure fOf) := tab_num rfl n
@[simp] theorem tn_pof (n : Nat) : tab n 79 = some (.pure fOf) := tab_num rfl n
noncomputable def fFrac : List AV → Option AV := oZZ fun x y => .tup [ratA ((x : Rat) / (y : Rat)), .lit (.int .i64 0)]
@[simp] theorem tn_frac (n : Nat) : tab n 116 = some (.pure fFrac) := tab_num rfl n
theorem r_add {p q : Rat} (hp : H p ≤ 17179869184) (hq : H q ≤ 17179869184) : fAdd [.agg [.lit (.bool (rawQ p).s), natA (rawQ p).l1, natA (rawQ p).l2], .agg [.lit (.bool (rawQ q).s), natA (rawQ q).l1, natA (rawQ q).l2]] = some (.agg [.lit (.bool (rawQ (p + q)).s), natA (rawQ (p + q)).l1, natA (rawQ (p + q)).l2]) := by unfold fAdd; rw [o2_agg hp hq, rawQ_q, rawQ_q]; rfl
theorem r_sub {p q : Rat} (hp : H p ≤ 17179869184) (hq : H q ≤ 17179869184) : fSub [.agg [.lit (.bool (rawQ p).s), natA (rawQ p).l1, natA (rawQ p).l2], .agg [.lit (.bool (rawQ q).s), natA (rawQ q).l1, natA (rawQ q).l2]] = some (.agg [.lit (.bool (rawQ (p - q)).s), natA (rawQ (p - q)).l1, natA (rawQ (p - q)).l2]) := by unfold fSub; rw [o2_agg hp hq, rawQ_q, rawQ_q]; rfl
theorem r_mul {p q : Rat} (hp : H p ≤ 17179869184) (hq : H q ≤ 17179869184) : fMul [.agg [.lit (.bool (rawQ p).s), natA (rawQ p).l1, natA (rawQ p).l2], .agg [.lit (.bool (rawQ q).s), natA (rawQ q).l1, natA (rawQ q).l2]] = some (.agg [.lit (.bool (rawQ (p * q)).s), natA (rawQ (p * q)).l1, natA (rawQ (p * q)).l2]) := by unfold fMul; rw [o2_agg hp hq, rawQ_q, rawQ_q]; rfl
theorem r_cmp {p q : Rat} (hp : H p ≤ 17179869184) (hq : H q ≤ 17179869184) : fCmp [.agg [.lit (.bool (rawQ p).s), natA (rawQ p).l1, natA (rawQ p).l2], .agg [.lit (.bool (rawQ q).s), natA (rawQ q).l1, natA (rawQ q).l2]] = some (.lit (.int .i64 (sgR (p - q)))) := by unfold fCmp; rw [o2_agg hp hq, rawQ_q, rawQ_q]
theorem r_neg {p : Rat} (hp : H p ≤ 17179869184) : fNeg [.agg [.lit (.bool (rawQ p).s), natA (rawQ p).l1, natA (rawQ p).l2]] = some (.agg [.lit (.bool (rawQ (-p)).s), natA (rawQ (-p)).l1, natA (rawQ (-p)).l2]) := by unfold fNeg; rw [o1_agg hp, rawQ_q]; rfl
theorem r_canon {p : Rat} (hp : H p ≤ 17179869184) : fCanon [.agg [.lit (.bool (rawQ p).s), natA (rawQ p).l1, natA (rawQ p).l2]] = some (.agg [.lit (.bool (rawQ p).s), natA (rawQ p).l1, natA (rawQ p).l2]) := by unfold fCanon; rw [o1_agg hp, rawQ_q]; rfl
theorem r_sign {p : Rat} (hp : H p ≤ 17179869184) : fSign [.agg [.lit (.bool (rawQ p).s), natA (rawQ p).l1, natA (rawQ p).l2]] = some (.lit (.int .i64 (sgR p))) := by unfold fSign; rw [o1_agg hp, rawQ_q]
theorem rawQ_inj {p q : Rat} (h : rawQ p = rawQ q) : p = q := by rw [← rawQ_q p, h, rawQ_q]
theorem r_same {p q : Rat} (hp : H p ≤ 17179869184) (hq : H q ≤ 17179869184) : fSame [.agg [.lit (.bool (rawQ p).s), natA (rawQ p).l1, natA (rawQ p).l2], .agg [.lit (.bool (rawQ q).s), natA (rawQ q).l1, natA (rawQ q).l2]] = some (.lit (.bool (decide (p = q)))) := by
  unfold fSame
  rw [o2_agg hp hq]
  have : (decide ((rawQ p).s = (rawQ q).s ∧ (rawQ p).l1 = (rawQ q).l1 ∧ (rawQ p).l2 = (rawQ q).l2)) = decide (p = q) := by
    apply decide_eq_decide.2
    constructor
    · intro ⟨h1, h2, h3⟩
      apply rawQ_inj
      generalize rawQ p = a at *
      generalize rawQ q = b at *
      obtain ⟨_, _, _⟩ := a
      obtain ⟨_, _, _⟩ := b
      simp_all
    · intro h; subst h; exact ⟨rfl, rfl, rfl⟩
  rw [this]
theorem r_of {z : Int} (h1 : -9223372036854775808 ≤ z) (h2 : z ≤ 9223372036854775807) : fOf [.lit (.int .i64 z)] = some (.agg [.lit (.bool (rawQ (z : Rat)).s), natA (rawQ (z : Rat)).l1, natA (rawQ (z : Rat)).l2]) := if_pos ⟨h1, h2⟩
end Go.Proofs.YtlpmemelhlnfbaaGreatDoor
