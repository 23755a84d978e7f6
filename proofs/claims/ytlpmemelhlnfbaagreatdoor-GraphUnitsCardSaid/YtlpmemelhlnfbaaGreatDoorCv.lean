/- Calls on natural numbers and further calls on text, as rows of the table of callees. -/
import Derived.Test.YtlpmemelhlnfbaaGreatDoorCm
import Derived.Test.YtlpmemelhlnfbaaGreatDoorCu
import Derived.Lib.AppendIntMem
import Derived.Lib.AtoiErrMem
set_option linter.all false
set_option linter.all false
set_option maxRecDepth 100000
namespace Go.Proofs.YtlpmemelhlnfbaaGreatDoor
open Go.RowKit Go.Sort

theorem RetN.ret {k : Nat} {w w' : World} {e : Ending} (h : RetN k w e w') : Ret (natA (lmb k)) w e w' := by
  obtain ⟨ad, n, c, rfl, h1, h2⟩ := h
  exact ⟨_, rfl, natA_rep h1, h2⟩
theorem tup2_rep {w : World} {ok : Nat → Nat → Prop} {d0 d1 : AV} {v0 v1 : Value} (h0 : RepT w ok d0 v0) (h1 : RepT w ok d1 v1) : RepT w ok (.tup [d0, d1]) (.tuple #[v0, v1]) := by
  refine .tup rfl fun i d hi => ?_
  match i, hi with
  | 0, hi => cases hi; exact h0
  | 1, hi => cases hi; exact h1
  | i + 2, hi => simp at hi
theorem tup3_rep {w : World} {ok : Nat → Nat → Prop} {d0 d1 d2 : AV} {v0 v1 v2 : Value} (h0 : RepT w ok d0 v0) (h1 : RepT w ok d1 v1) (h2 : RepT w ok d2 v2) : RepT w ok (.tup [d0, d1, d2]) (.tuple #[v0, v1, v2]) := by
  refine .tup rfl fun i d hi => ?_
  match i, hi with
  | 0, hi => cases hi; exact h0
  | 1, hi => cases hi; exact h1
  | 2, hi => cases hi; exact h2
  | i + 3, hi => simp at hi
theorem DivPost.ret {q r : Nat} {w w' : World} {e : Ending} (h : DivPost q r w e w') : Ret (.tup [natA (lmb q), natA (lmb r), .lit (.int .i64 0)]) w e w' := by
  obtain ⟨a1, n1, c1, a2, n2, c2, rfl, h1, h2, h3⟩ := h
  exact ⟨_, rfl, tup3_rep (natA_rep h1) (natA_rep h2) (.lit _), h3⟩
/-- a number of 64 bits as an argument -/
def oU (F : Nat → AV) : List AV → Option AV
  | [.lit (.int .u64 z)] => if 0 ≤ z ∧ z < 18446744073709551616 then some (F z.toNat) else none
  | _ => none
def oN1 (G : List Nat → Bool) (F : List Nat → AV) : List AV → Option AV
  | [a] => match decN a with
    | some x => if fewN x && G x then some (F x) else none
    | none => none
  | _ => none
def oND (F : List Nat → List Nat → AV) : List AV → Option AV
  | [a, b] => match decN a, decN b with
    | some x, some y => if fewN x && fewN y && Nat.blt 0 (val y) then some (F x y) else none
    | _, _ => none
  | _ => none
section
variable {P : Program} {f : FuncId}
theorem conU {F : Nat → AV} (h : ∀ (w : World) (z : Int), 0 ≤ z → z < 18446744073709551616 → Calls P f #[.int .u64 z] w (Ret (F z.toNat) w)) : ∀ args r, oU F args = some r → Con P f args r := by
  intro args r hr
  unfold oU at hr
  split at hr
  · rename_i z
    split at hr
    · rename_i hz
      cases hr
      refine con_ret fun w ok vs hv => ?_
      obtain ⟨v, rfl, hv1⟩ := rv_list1 hv
      cases hv1
      exact h w z hz.1 hz.2
    · cases hr
  · cases hr
theorem conN1 {G : List Nat → Bool} {F : List Nat → AV} (h : ∀ (w : World) (x : List Nat) (a : Option Addr) (n c : Nat), LimR w a n c x → n ≤ 68719476736 → G x = true → Calls P f #[.slice a n c] w (Ret (F x) w)) : ∀ args r, oN1 G F args = some r → Con P f args r := by
  intro args r hr
  unfold oN1 at hr
  split at hr
  · rename_i a
    split at hr
    · rename_i x hx
      split at hr
      · rename_i hfew
        cases hr
        rw [Bool.and_eq_true] at hfew
        refine con_ret fun w ok vs hv => ?_
        obtain ⟨v, rfl, hv1⟩ := rv_list1 hv
        obtain ⟨a1, n1, c1, rfl, h1⟩ := decN_sound hv1 hx
        exact h w x a1 n1 c1 h1 (few_of hfew.1 h1.len) hfew.2
      · cases hr
    · cases hr
  · cases hr
theorem conND {F : List Nat → List Nat → AV} (h : ∀ (w : World) (x y : List Nat) (a1 a2 : Option Addr) (n1 c1 n2 c2 : Nat), LimR w a1 n1 c1 x → LimR w a2 n2 c2 y → n1 ≤ 68719476736 → n2 ≤ 68719476736 → 0 < val y → Calls P f #[.slice a1 n1 c1, .slice a2 n2 c2] w (Ret (F x y) w)) : ∀ args r, oND F args = some r → Con P f args r := by
  intro args r hr
  unfold oND at hr
  split at hr
  · rename_i a b
    split at hr
    · rename_i x y hx hy
      split at hr
      · rename_i hfew
        cases hr
        simp only [Bool.and_eq_true] at hfew
        refine con_ret fun w ok vs hv => ?_
        obtain ⟨v, u, rfl, hv1, hv2⟩ := rv_list2 hv
        obtain ⟨a1, n1, c1, rfl, h1⟩ := decN_sound hv1 hx
        obtain ⟨a2, n2, c2, rfl, h2⟩ := decN_sound hv2 hy
        exact h w x y a1 a2 n1 c1 n2 c2 h1 h2 (few_of hfew.1.1 h1.len) (few_of hfew.1.2 h2.len) (Nat.le_of_ble_eq_true hfew.2)
      · cases hr
    · cases hr
  · cases hr
end
def u64N (x : List Nat) : Bool := Nat.blt (val x) 18446744073709551616
theorem con_nof : ∀ args r, oU (fun k => natA (lmb k)) args = some r → Con Tryz.prog 178 args r := conU fun w z h0 h1 => (nof_any w z h0 h1).mono fun _ _ h => h.ret
theorem con_nadd : ∀ args r, oN2 (fun x y => natA (lmb (val x + val y))) args = some r → Con Tryz.prog 215 args r := conN2 fun w x y a1 a2 n1 c1 n2 c2 h1 h2 b1 b2 => (nadd_any w h1 h2 (by omega) (by omega)).mono fun _ _ h => h.ret
theorem con_nmul : ∀ args r, oN2 (fun x y => natA (lmb (val x * val y))) args = some r → Con Tryz.prog 154 args r := conN2 fun w x y a1 a2 n1 c1 n2 c2 h1 h2 b1 b2 => (nmul_any w h1 h2 (by omega) (by omega)).mono fun _ _ h => h.ret
theorem con_nmake : ∀ args r, oN1 (fun _ => true) (fun x => natA (lmb (val x))) args = some r → Con Tryz.prog 196 args r := conN1 fun w x a n c h b _ => (nmake_any w h (by omega)).mono fun _ _ h => h.ret
theorem con_ndiv : ∀ args r, oND (fun x y => .tup [natA (lmb (val x / val y)), natA (lmb (val x % val y)), .lit (.int .i64 0)]) args = some r → Con Tryz.prog 199 args r := conND fun w x y a1 a2 n1 c1 n2 c2 h1 h2 b1 b2 h0 => (ndiv_any w h1 h2 (by omega) (by omega) h0).mono fun _ _ h => h.ret
theorem con_nuint : ∀ args r, oN1 u64N (fun x => .tup [.lit (.int .u64 (val x : Nat)), .lit (.bool true)]) args = some r → Con Tryz.prog 209 args r := conN1 fun w x a n c h b h64 => (nuint_any w h (by omega) (Nat.le_of_ble_eq_true h64)).mono fun e w' ⟨he, hw⟩ => ⟨_, he, tup2_rep (.lit _) (.lit _), hw ▸ Below.refl _ _⟩
theorem con_fnof : ∀ args r, oU (fun k => natA (lmb k)) args = some r → Con Tryz.prog 128 args r := conU fun w z h0 h1 => (fof_any w z h0 h1).mono fun _ _ h => h.ret
theorem con_fnmake : ∀ args r, oN1 (fun _ => true) (fun x => natA (lmb (val x))) args = some r → Con Tryz.prog 182 args r := conN1 fun w x a n c h b _ => (fmake_any w h (by omega)).mono fun _ _ h => h.ret
theorem con_fndiv : ∀ args r, oND (fun x y => .tup [natA (lmb (val x / val y)), natA (lmb (val x % val y)), .lit (.int .i64 0)]) args = some r → Con Tryz.prog 183 args r := conND fun w x y a1 a2 n1 c1 n2 c2 h1 h2 b1 b2 h0 => (fdiv_any w h1 h2 (by omega) (by omega) h0).mono fun _ _ h => h.ret
theorem con_fnuint : ∀ args r, oN1 u64N (fun x => .tup [.lit (.int .u64 (val x : Nat)), .lit (.bool true)]) args = some r → Con Tryz.prog 184 args r := conN1 fun w x a n c h b h64 => (fuint_any w h (by omega)).mono fun e w' ⟨he, hb⟩ => by
  have h9 : val x < 18446744073709551616 := Nat.le_of_ble_eq_true h64
  rw [if_pos h9, decide_eq_true h9] at he
  exact ⟨_, he, tup2_rep (.lit _) (.lit _), hb⟩
/-- internal/strconv.FormatUint at base 10 -/
theorem ifu_c (u : Nat) (hu64 : u < 18446744073709551616) (w : World) (htab : Lib.TabIs Tryz.prog w "internal/strconv.uint64pow10" .u64 Lib.pow10Tab) :
    Calls Tryz.prog 239 #[.int .u64 u, .int .i64 10] w fun e w' => e = .returned (.string ⟨(Lib.decDigits u).toArray⟩) ∧ ∃ k os, w' = grow (w.drewN k) os := by
  by_cases hs : u < 100
  · go_enter Tryz.func239, Tryz.ntmps239
    have hwr : IntKind.i64.wrap (u : Int) = u := by simp [IntKind.wrap, IntKind.signed, IntKind.bits]; omega
    go_wp2_with (go_at_call 234; refine (Tryz.internal_strconv_small u hs _).mono ?_; rintro e w' ⟨rfl, rfl⟩)
    go_ret
    exact ⟨rfl, 0, #[], by simp [World.drewN_zero, Sort.grow]⟩
  · have hu1 : 1 ≤ u := by omega
    have hnd20 : Lib.nDigits u ≤ 20 := by have := Lib.numDigits_eq u hu1 hu64; split at this <;> omega
    have hb3 : Lib.nDigits u ≤ 24 := by omega
    have hal : Tryz.prog.arrayLen 212 = 24 := by kernel_rfl
    have hsl1 : ∀ W, (Instr.sliceAt 212 (.pointer (some ⟨w.heap.size, 0, none⟩)) none (some (.int .i64 (Lib.nDigits u : Int))) none).run Tryz.prog W = .ok (.slice (some ⟨w.heap.size, 0, none⟩) (Lib.nDigits u) 24) W := fun W => by
      rw [run_sliceAt_array_h W 212 ⟨w.heap.size, 0, none⟩ (by simp [Program.arrayLen, Program.elem, Tryz.underlying212]) .i64 (Lib.nDigits u : Int) (by omega) (by rw [hal]; omega)]
      go_simp
    have hH0 := Lib.holds_zero0 w 212 (Lib.nDigits u) (by omega)
    have hfmt := Tryz.internal_strconv_formatBase10 w.heap.size 0 24 u (Array.replicate (Lib.nDigits u) 0) (w.alloc (.cells Lib.zeros24 212)) hH0 (by rw [Array.size_replicate]; exact Lib.lt_pow_nDigits u) hu64 (by rw [Array.size_replicate]; omega)
    rw [Array.size_replicate] at hfmt
    have HH0 := Lib.hid hH0
    clear hH0 hal
    go_enter Tryz.func239, Tryz.ntmps239
    go_wp2_with (first
      | (go_at_call 235; refine (Tryz.internal_strconv_numDigits u hu1 hu64 _ (Lib.tabIs_alloc htab _)).mono ?_; rintro e w' ⟨rfl, rfl⟩))
    go_at_call 236
    refine hfmt.mono ?_
    rintro e w' ⟨rfl, k, v', dk, rfl, hF⟩
    have hcv : (convert 35 9 (.slice (some ⟨w.heap.size, 0, none⟩) (Lib.nDigits u) 24)).run Tryz.prog ((putRow (fun (b : UInt8) => Value.int .u8 (b.toNat : Int)) (w.alloc (.cells Lib.zeros24 212)) w.heap.size 0 dk).drewN k) = .ok (.string ⟨(Lib.decDigits u).toArray⟩) ((putRow (fun (b : UInt8) => Value.int .u8 (b.toNat : Int)) (w.alloc (.cells Lib.zeros24 212)) w.heap.size 0 dk).drewN k) := by
      have h := run_convert_bytes_back (P := Tryz.prog) ((putRow (fun (b : UInt8) => Value.int .u8 (b.toNat : Int)) (w.alloc (.cells Lib.zeros24 212)) w.heap.size 0 dk).drewN k) 35 9 5 ⟨w.heap.size, 0, none⟩ 24 (Lib.decDigits u) Tryz.underlying35 Tryz.underlying5 Tryz.underlying9 (fun j hj => by
        rw [Lib.row_is_numeral hF j hj, Lib.add_plain, World.cell?_drewN]
        exact cell?_putRow (fun (b : UInt8) => Value.int .u8 (b.toNat : Int)) _ w.heap.size 0 _ dk HH0.out (by rw [hF.size, Array.size_replicate]) j (by rw [hF.size]; rw [Lib.decDigits_length] at hj; exact hj))
      rw [Lib.decDigits_length] at h
      exact h
    go_wp2
    go_ret
    obtain ⟨os, eo⟩ := Lib.fin_at w (.cells Lib.zeros24 212) dk k 0
    exact ⟨rfl, k, os, eo⟩
theorem fu_c (u : Nat) (hu64 : u < 18446744073709551616) (w : World) (htab : Lib.TabIs Tryz.prog w "internal/strconv.uint64pow10" .u64 Lib.pow10Tab) :
    Calls Tryz.prog 210 #[.int .u64 u, .int .i64 10] w fun e w' => e = .returned (.string ⟨(Lib.decDigits u).toArray⟩) ∧ ∃ k os, w' = grow (w.drewN k) os := by
  go_enter Tryz.func210, Tryz.ntmps210
  go_wp2_with (go_at_call 239; refine (ifu_c u hu64 _ htab).mono ?_; rintro e w' ⟨rfl, k, os, rfl⟩)
  go_ret
  exact ⟨rfl, k, os, rfl⟩
def oFU : List AV → Option AV
  | [.lit (.int .u64 u), .lit (.int .i64 10)] => if 0 ≤ u ∧ u < 18446744073709551616 then some (.lit (.string ⟨(Lib.decDigits u.toNat).toArray⟩)) else none
  | _ => none
theorem con_fu : ∀ args r, oFU args = some r → Con Tryz.prog 210 args r := fun args r hr => by
  unfold oFU at hr
  split at hr
  · rename_i u
    split at hr
    · rename_i hn
      cases hr
      intro w ok vs hgl hv
      obtain ⟨v, v2, rfl, hv1, hv2⟩ := rv_list2 hv
      cases hv1
      cases hv2
      obtain ⟨m, rfl⟩ : ∃ m : Nat, u = m := ⟨u.toNat, by omega⟩
      rw [Int.toNat_natCast]
      refine (fu_c m (by omega) w (globTab hgl)).mono ?_
      rintro e w' ⟨rfl, k, os, rfl⟩
      exact ⟨_, rfl, .lit _, below_grow_drew⟩
    · cases hr
  · cases hr
/-- strings.IndexByte -/
def oIB : List AV → Option AV
  | [.lit (.string s), .lit (.int .u8 c)] => if 0 ≤ c ∧ c < 256 then some (.lit (.int .i64 (Lib.indexByte s.data.toList c.toNat.toUInt8))) else none
  | _ => none
theorem con_ib : ∀ args r, oIB args = some r → Con Tryz.prog 177 args r := fun args r hr => by
  unfold oIB at hr
  split at hr
  · rename_i s c
    split at hr
    · rename_i hn
      cases hr
      intro w ok vs hgl hv
      obtain ⟨v, v2, rfl, hv1, hv2⟩ := rv_list2 hv
      cases hv1
      cases hv2
      refine (Tryz.strings_IndexByte s c w).mono ?_
      rintro e w' ⟨rfl, rfl⟩
      exact ⟨_, rfl, .lit _, Below.refl _ _⟩
    · cases hr
  · cases hr
end Go.Proofs.YtlpmemelhlnfbaaGreatDoor
