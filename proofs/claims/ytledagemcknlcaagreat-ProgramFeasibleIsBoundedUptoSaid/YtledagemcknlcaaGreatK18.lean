/- integers in memory; relucertref27.small, gcd, bits: what each call returns. relucertref27.reduce: what the call returns. relucertref27.dense: what the call returns. -/
import Derived.Test.YtledagemcknlcaaGreatK17
import Derived.Test.YtledagemcknlcaaGreatK16
set_option linter.all false
namespace Go.Proofs.YtledagemcknlcaaGreat
open Go.RowKit

/-- the slice reads as the integers xs -/
structure IntR (w : World) (ad : Option Addr) (n c : Nat) (xs : List Int) : Prop where
  len : xs.length = n
  cap : n ≤ c
  cells : 0 < n → ∃ b o, ad = some ⟨b, o, none⟩ ∧ b < w.heap.size ∧ ∀ (i : Nat) (x : Int), xs[i]? = some x → w.cell? ⟨b, o + i, none⟩ = some (.int .i64 x)
theorem IntR.on {w w' : World} {ad : Option Addr} {n c : Nat} {xs : List Int} (h : IntR w ad n c xs) (hb : Below w.heap.size w w') : IntR w' ad n c xs :=
  ⟨h.len, h.cap, fun h0 => by
    obtain ⟨b, o, e, hlt, hc⟩ := h.cells h0
    exact ⟨b, o, e, Nat.lt_of_lt_of_le hlt hb.size, fun i x hx => (hb.cell (p := ⟨b, o + i, none⟩) hlt).trans (hc i x hx)⟩⟩
theorem IntR.at_ {w : World} {ad : Option Addr} {n c : Nat} {xs : List Int} (h : IntR w ad n c xs) {i : Nat} (hi : i < n) : ∃ b o x, ad = some ⟨b, o, none⟩ ∧ b < w.heap.size ∧ Hid (xs[i]? = some x) ∧ w.cell? ⟨b, o + i, none⟩ = some (.int .i64 x) := by
  obtain ⟨b, o, e, hb, hc⟩ := h.cells (by omega)
  have hl := h.len
  have ht : xs[i]? = some (xs[i]'(by omega)) := List.getElem?_eq_getElem _
  exact ⟨b, o, _, e, hb, ht, hc _ _ ht⟩
/-- an array of the call's own -/
def icells (xs : List Int) : Array Value := (xs.map (Value.int .i64)).toArray
theorem icells_get (xs : List Int) (i : Nat) : (icells xs)[i]? = xs[i]?.map (Value.int .i64) := by simp [icells]
theorem icells_set (xs : List Int) (i : Nat) (x : Int) : (icells xs).setIfInBounds i (.int .i64 x) = icells (xs.set i x) := by
  apply Array.ext_getElem?
  intro j
  simp only [icells, List.setIfInBounds_toArray, List.map_set]
theorem icells_made (n : Nat) : madeCells #[.int .i64 0] n = icells (List.replicate n 0) := by
  apply Array.ext_getElem?
  intro j
  simp [madeCells, icells]
  by_cases h : j < n
  · simp [h, Nat.mod_one]
  · simp [h]
theorem ib_cell {w : World} {g : Nat} {t : TypeId} {xs : List Int} (h : Blk w g t (icells xs)) {i : Nat} {x : Int} (hx : xs[i]? = some x) : w.cell? ⟨g, i, none⟩ = some (.int .i64 x) := by
  rw [h.cell, icells_get, hx]; rfl
theorem ib_set {w : World} {g : Nat} {t : TypeId} {xs : List Int} (h : Blk w g t (icells xs)) (i : Nat) (x : Int) : Blk (w.setCell ⟨g, i, none⟩ (.int .i64 x)) g t (icells (xs.set i x)) := by
  have := h.set_ i (.int .i64 x)
  rwa [icells_set] at this
theorem ib_read {w : World} {g : Nat} {t : TypeId} {xs : List Int} (h : Blk w g t (icells xs)) {n : Nat} (hn : xs.length = n) : IntR w (some ⟨g, 0, none⟩) n n xs :=
  ⟨hn, Nat.le_refl _, fun _ => ⟨g, 0, rfl, h.lt, fun i x hx => by rw [Nat.zero_add]; exact ib_cell h hx⟩⟩
theorem Tryz.infoInt : (Tryz.prog.info? 3).map (fun i => (i.zero, i.size, i.bytes)) = some (some (.int .i64 0), 1, 8) := by kernel_rfl
theorem Tryz.mkInts (n : Int) (k : Nat) (h : n = k) (h1 : n ≤ 17592186044416) (w : World) :
    (Instr.makeSlice 65 (.int .i64 n) (.int .i64 n)).run Tryz.prog w = .ok (.slice (some ⟨w.heap.size, 0, none⟩) k k) (w.alloc (.cells (madeCells #[.int .i64 0] k) 3)) := by
  subst h
  exact run_make_row' (P := Tryz.prog) 65 3 (.int .i64 0) 8 Tryz.underlying65 Tryz.infoInt rfl .i64 .i64 k (by omega) (by omega) w
def smV (l : List Nat) : Int := (l.getD 0 0 : Nat)
def smB (l : List Nat) : Bool := decide (l.length ≤ 1 ∧ l.getD 0 0 ≤ 1073741824)
/-- The call returns a small number, and whether it is one. -/
def RetSm (l : List Nat) (w : World) (e : Ending) (w' : World) : Prop :=
  e = .returned (.tuple #[.int .i64 (smV l), .bool (smB l)]) ∧ Below w.heap.size w w'
set_option maxRecDepth 100000 in
set_option maxHeartbeats 1600000 in
theorem small_num (w : World) {ad : Option Addr} {n c : Nat} {l : List Nat} (h : LimR w ad n c l) (hn : n ≤ 9223372036854775807) :
    Calls Tryz.prog 68 #[.slice ad n c] w (RetSm l w) := by
  have HL := Lib.hid h.len
  go_enter Tryz.func68, Tryz.ntmps68
  by_cases e0 : n = 0
  · subst e0
    have hl : l = [] := List.eq_nil_of_length_eq_zero HL.out
    have HE : Hid (RetSm l w (.returned (.tuple #[.int .i64 0, .bool true])) w) := by subst hl; exact ⟨rfl, Below.refl _ _⟩
    clear hl
    go_wp2_with fail
    go_ret2
    exact HE.out
  · have d0 : ((n : Int) == 0) = false := by simp; omega
    have d0' : (n == 0) = false := by simp; omega
    obtain ⟨b, o, x, rfl, hb, hc, hx, HX⟩ := h.at_ (i := 0) (by omega)
    have hc' : w.cell? ⟨b, o, none⟩ = some (.int .u32 (x : Nat)) := hc
    obtain ⟨hcx, hfx⟩ := upcell w
    have lo : decide ((n : Int) ≤ 0) = false := decide_eq_false (by omega)
    have lo1 : 0 < n := by omega
    clear hc h
    go_upto_region 3 with (fail)
    by_cases e1 : n = 1
    · subst e1
      have HE : Hid (∀ w', Below w.heap.size w w' → RetSm l w (.returned (.tuple #[.int .i64 (x : Nat), .bool (decide ((x : Int) ≤ 1073741824))])) w') := fun w' hb => ⟨by
        unfold smV smB
        rw [HX.out, HL.out]
        congr 3
        congr 1
        congr 1
        simp only [Value.bool.injEq, decide_eq_decide]
        omega, hb⟩
      refine wp_region_up (by kernel_rfl) (by kernel_rfl) ?_
      repeat (go_big_quiet_step ((fail)))
      refine wpQuiet_nil ?_
      intro x
      go_wp2_with fail
      go_ret2
      exact HE.out _ x.below
    · have d1 : ((n : Int) == 1) = false := by simp; omega
      have d1' : (n == 1) = false := by simp; omega
      have HE : Hid (∀ w', Below w.heap.size w w' → RetSm l w (.returned (.tuple #[.int .i64 (x : Nat), .bool false])) w') := fun w' hb => ⟨by
        unfold smV smB
        rw [HX.out, HL.out, decide_eq_false (by omega)], hb⟩
      refine wp_region_up (by kernel_rfl) (by kernel_rfl) ?_
      repeat (go_big_quiet_step ((fail)))
      refine wpQuiet_nil ?_
      intro x
      go_wp2_with fail
      go_ret2
      exact HE.out _ x.below
set_option maxRecDepth 100000 in
set_option maxHeartbeats 1600000 in
theorem gcd_c (w : World) (a b : Nat) (ha : a ≤ 9223372036854775807) (hb : b ≤ 9223372036854775807) :
    Calls Tryz.prog 69 #[.int .i64 (a : Int), .int .i64 (b : Int)] w (RetInt (Nat.gcd a b : Nat) w) := by
  go_enter Tryz.func69, Tryz.ntmps69
  go_wp2_with fail
  go_loopw [0, 1] (fun s0 s1 wr => ∃ p q : Nat, s0 = .int .i64 (p : Int) ∧ s1 = .int .i64 (q : Int) ∧ p ≤ 9223372036854775807 ∧ q ≤ 9223372036854775807 ∧ Hid (Nat.gcd p q = Nat.gcd a b) ∧ Below w.heap.size w wr) (fun _ y _ => (intOf y).toNat)
  case atStart => exact ⟨a, b, rfl, rfl, ha, hb, rfl, Below.refl _ _⟩
  case round =>
    obtain ⟨p, q, rfl, rfl, hp, hq, HG, hbl⟩ := hrel
    by_cases h0 : q = 0
    · subst h0
      have HE : Hid ((p : Int) = ((Nat.gcd a b : Nat) : Int)) := (by have := HG.out; rw [Nat.gcd_zero_right] at this; rw [this] : (p : Int) = ((Nat.gcd a b : Nat) : Int))
      go_wp2_with fail
      go_ret
      exact ⟨by rw [HE.out]; rfl, hbl⟩
    · have d0 : ((q : Int) != 0) = true := by simp; omega
      have d1 : ((q : Int) == 0) = false := by simp; omega
      have hlt : p % q < q := Nat.mod_lt _ (by omega)
      have HG' : Hid (Nat.gcd q (p % q) = Nat.gcd a b) := (by
        have := HG.out
        rw [← this, Nat.gcd_comm p q, Nat.gcd_rec q p, Nat.gcd_comm] : Nat.gcd q (p % q) = Nat.gcd a b)
      have hq0 : 0 < q := by omega
      clear h0
      go_upto_region 2 with (fail)
      refine wp_region_up (by kernel_rfl) (by kernel_rfl) ?_
      repeat (go_big_quiet_step ((fail)))
      refine wpQuiet_nil ?_
      intro x
      go_wp2_with fail
      go_roundw
      case rel => exact ⟨q, p % q, rfl, rfl, hq, by omega, HG', hbl.trans (x.below.mono hbl.size)⟩
      case measure => simp [intOf]; omega
/-- the number of ones -/
theorem popF_zero : ∀ k, popF k 0 = 0
  | 0 => rfl
  | k + 1 => by rw [popF]; simp [popF_zero k]
theorem popF_le_fuel : ∀ k x, popF k x ≤ k
  | 0, _ => Nat.le_refl _
  | k + 1, x => by rw [popF]; have := popF_le_fuel k (x / 2); omega
set_option maxRecDepth 100000 in
set_option maxHeartbeats 1600000 in
theorem bits_c (w : World) (a : Nat) (ha : a < 18446744073709551616) :
    Calls Tryz.prog 71 #[.int .u64 (a : Int)] w (RetInt (popF 64 a : Nat) w) := by
  go_enter Tryz.func71, Tryz.ntmps71
  go_wp2_with fail
  go_loopw [0, 3] (fun s0 s3 wr => ∃ p n k : Nat, s0 = .int .u64 (p : Int) ∧ s3 = .int .i64 (n : Int) ∧ k ≤ 64 ∧ n ≤ 64 - k ∧ p < 2 ^ k ∧ p ≤ 18446744073709551615 ∧ Hid (n + popF k p = popF 64 a) ∧ Below w.heap.size w wr) (fun p _ _ => (intOf p).toNat)
  case atStart => exact ⟨a, 0, 64, rfl, rfl, by omega, by omega, ha, by omega, Nat.zero_add _, Below.refl _ _⟩
  case round =>
    obtain ⟨p, n, k, rfl, rfl, hk, hn, hp, hp2, HG, hbl⟩ := hrel
    by_cases h0 : p = 0
    · subst h0
      have HE : Hid ((n : Int) = ((popF 64 a : Nat) : Int)) := (by have := HG.out; rw [popF_zero] at this; rw [← this]; simp : (n : Int) = ((popF 64 a : Nat) : Int))
      go_wp2_with fail
      go_ret
      exact ⟨by rw [HE.out]; rfl, hbl⟩
    · have h1 : 0 < p := by omega
      have d0 : decide ((0 : Int) < (p : Int)) = true := decide_eq_true (by omega)
      rcases k with _ | k
      · simp at hp; omega
      have HP : Hid (p / 2 < 2 ^ k) := (by rw [Nat.pow_succ] at hp; omega : p / 2 < 2 ^ k)
      have HG' : Hid (n + p % 2 + popF k (p / 2) = popF 64 a) := (by have := HG.out; rw [popF] at this; omega : n + p % 2 + popF k (p / 2) = popF 64 a)
      clear h0 hp
      go_wp2_with fail
      go_roundw
      case rel => exact ⟨p / 2, n + p % 2, k, by first | rfl | go_num, by first | rfl | go_num, by omega, by omega, HP.out, by omega, HG', hbl⟩
      case measure => simp [intOf]; omega
end Go.Proofs.YtledagemcknlcaaGreat
namespace Go.Proofs.YtledagemcknlcaaGreat
open Go.RowKit

/-- ys is xs divided by a number, and is not too great -/
structure Red (xs ys : List Int) : Prop where
  len : ys.length = xs.length
  ex : ∃ d : Nat, 0 < d ∧ ∀ (i : Nat) (x y : Int), xs[i]? = some x → ys[i]? = some y → x = d * y
  bd : ∀ (i : Nat) (y : Int), ys[i]? = some y → -1073741824 ≤ y ∧ y ≤ 1073741824
def RetRed (g N : Nat) (xs : List Int) (w : World) (e : Ending) (w' : World) : Prop :=
  ∃ ok ys, e = .returned (.bool ok) ∧ Blk w' g 3 (icells ys) ∧ ys.length = N ∧ (ok = true → Red xs ys) ∧ Below g w w'
/-- the rows of reduce's second loop -/
structure RLoop (g N D i : Nat) (xs ys : List Int) (w wr : World) : Prop where
  box : Blk wr g 3 (icells ys)
  len : ys.length = N
  done : Hid (∀ (j : Nat) (x y : Int), j < i → xs[j]? = some x → ys[j]? = some y → x = D * y ∧ -1073741824 ≤ y ∧ y ≤ 1073741824)
  rest : Hid (∀ j, i ≤ j → ys[j]? = xs[j]?)
  below : Below g w wr
theorem dvd_gcd_abs {x : Int} {d : Nat} : ((Nat.gcd x.natAbs d : Nat) : Int) ∣ x := Int.ofNat_dvd_left.2 (Nat.gcd_dvd_left _ _)
theorem gcd_le {a d : Nat} (ha : a ≤ 4611686018427387904) (hd : d ≤ 4611686018427387904) : Nat.gcd a d ≤ 4611686018427387904 := by
  rcases Nat.eq_zero_or_pos a with h | h
  · subst h; rw [Nat.gcd_zero_left]; exact hd
  · exact Nat.le_trans (Nat.le_of_dvd h (Nat.gcd_dvd_left _ _)) ha
set_option maxRecDepth 100000 in
set_option maxHeartbeats 6400000 in
theorem reduce_c (w : World) {g N : Nat} {xs : List Int} (hB : Blk w g 3 (icells xs)) (hN : xs.length = N) (hb : ∀ (i : Nat) (x : Int), xs[i]? = some x → -4611686018427387904 ≤ x ∧ x ≤ 4611686018427387904) (hNm : N ≤ 1048576) :
    Calls Tryz.prog 70 #[.slice (some ⟨g, 0, none⟩) N N] w (RetRed g N xs w) := by
  have HN := Lib.hid hN
  have HB := Lib.hid hb
  have hg := hB.lt
  clear hN hb
  go_enter Tryz.func70, Tryz.ntmps70
  go_wp2_with fail
  go_loopw [3, 4] (fun s3 s4 wr => ∃ i d : Nat, i ≤ N ∧ s4 = .int .i64 (i : Int) ∧ s3 = .int .i64 (d : Int) ∧ d ≤ 4611686018427387904 ∧ Hid (∀ (j : Nat) (x : Int), j < i → xs[j]? = some x → (d : Int) ∣ x) ∧ Below w.heap.size w wr) (fun _ i _ => N - (intOf i).toNat)
  case atStart => exact ⟨0, 0, by omega, rfl, rfl, by omega, (fun j x hj => by omega : ∀ (j : Nat) (x : Int), j < 0 → xs[j]? = some x → ((0 : Nat) : Int) ∣ x), Below.refl _ _⟩
  case round =>
    obtain ⟨i, d, hi, rfl, rfl, hd, HI, hbw⟩ := hrel
    have hBr := hB.on hbw
    have hgr := Nat.lt_of_lt_of_le hg hbw.size
    by_cases hlt : i < N
    · obtain ⟨z, hx⟩ : ∃ z, xs[i]? = some z := ⟨xs[i]'(by have := HN.out; omega), List.getElem?_eq_getElem _⟩
      have hxb := HB.out i z hx
      have c0 := ib_cell hBr hx
      have HX := Lib.hid hx
      clear hx
      have lo : decide ((i : Int) < 0) = false := decide_eq_false (by omega)
      have hi' : decide ((N : Int) ≤ (i : Int)) = false := decide_eq_false (by omega)
      obtain ⟨hcx, hfx⟩ := upcell wr
      have HI2 : Hid (∀ (j : Nat) (y : Int), j < i + 1 → xs[j]? = some y → ((Nat.gcd z.natAbs d : Nat) : Int) ∣ y) := (fun j y hj hy => by
        rcases Nat.lt_or_ge j i with h | h
        · exact Int.dvd_trans (Int.ofNat_dvd.2 (Nat.gcd_dvd_right _ _)) (HI.out j y h hy)
        · have e : j = i := by omega
          subst e
          have := HX.out.symm.trans hy
          cases this
          exact dvd_gcd_abs : ∀ (j : Nat) (y : Int), j < i + 1 → xs[j]? = some y → ((Nat.gcd z.natAbs d : Nat) : Int) ∣ y)
      have HG2 := Lib.hid (gcd_le (a := z.natAbs) (d := d) (by omega) hd)
      have HV : Hid (∀ x9 : Up wr, Calls Tryz.prog 69 #[.int .i64 (max z (-z)), .int .i64 (d : Int)] x9.w (RetInt (Nat.gcd z.natAbs d : Nat) x9.w)) := fun x9 => by
        have h9 := gcd_c x9.w z.natAbs d (by omega) (by omega)
        rwa [show ((z.natAbs : Nat) : Int) = max z (-z) by omega] at h9
      go_upto_region 5 with (fail)
      refine wp_region_up (by kernel_rfl) (by kernel_rfl) ?_
      repeat (go_big_quiet_step ((go_at_call 69; exact up_i (HV.out _))))
      refine wpQuiet_nil ?_
      intro x
      go_wp2_with fail
      go_roundw
      case rel => exact ⟨i + 1, Nat.gcd z.natAbs d, by omega, by go_num, rfl, HG2.out, HI2, hbw.trans (x.below.mono hbw.size)⟩
      case measure => simp [intOf]; omega
    · have e : i = N := by omega
      subst e
      have hR0 : RLoop g i (max d 1) 0 xs xs w wr := ⟨hBr, HN.out, (fun j x y hj => by omega : ∀ (j : Nat) (x y : Int), j < 0 → xs[j]? = some x → xs[j]? = some y → x = ((max d 1 : Nat) : Int) * y ∧ -1073741824 ≤ y ∧ y ≤ 1073741824), (fun j _ => rfl : ∀ j, 0 ≤ j → xs[j]? = xs[j]?), hbw.mono (by omega)⟩
      have HDV : Hid (∀ (j : Nat) (x : Int), xs[j]? = some x → (d : Int) ∣ x) := (fun j x hx => HI.out j x (by have := (List.getElem?_eq_some_iff.1 hx).1; have := HN.out; omega) hx : ∀ (j : Nat) (x : Int), xs[j]? = some x → (d : Int) ∣ x)
      clear HI hBr hbw hgr
      go_wp2_with fail
      go_loopw [5] (fun s5 wr => ∃ k ys, k ≤ i ∧ s5 = .int .i64 (k : Nat) ∧ RLoop g i (max d 1) k xs ys w wr) (fun k _ => i - (intOf k).toNat)
      case atStart => exact ⟨0, xs, by omega, rfl, hR0⟩
      case round =>
        clear hR0
        obtain ⟨k, ys, hk, rfl, hR⟩ := hrel
        have hBk := hR.box
        have hgk := hBk.lt
        by_cases hlt2 : k < i
        · obtain ⟨z, hz⟩ : ∃ z, xs[k]? = some z := ⟨xs[k]'(by have := HN.out; omega), List.getElem?_eq_getElem _⟩
          have hzb := HB.out k z hz
          have hzy : ys[k]? = some z := (hR.rest.out k (Nat.le_refl _)).trans hz
          have c0 := ib_cell hBk hzy
          have f0 := hBk.frozen k
          have HZ := Lib.hid hz
          have lo : decide ((k : Int) < 0) = false := decide_eq_false (by omega)
          have hi' : decide ((i : Int) ≤ (k : Int)) = false := decide_eq_false (by omega)
          by_cases h1 : 1 < d
          · obtain ⟨y, hy⟩ := HDV.out k z hz
            have ht : Int.tdiv z (d : Int) = y := by rw [hy]; exact Int.mul_tdiv_cancel_left _ (by omega)
            have hyb : -4611686018427387904 ≤ y ∧ y ≤ 4611686018427387904 := by
              have h2 : y.natAbs ≤ z.natAbs := by rw [hy, Int.natAbs_mul]; exact Nat.le_mul_of_pos_left _ (by omega)
              omega
            have HY := Lib.hid hy
            have dd : decide (1 < d) = true := decide_eq_true h1
            have dd2 : decide ((1 : Int) < (d : Int)) = true := decide_eq_true (by omega)
            have dz : ((d : Int) == 0) = false := by simp; omega
            clear hy hz hzy
            go_upto_region 11 with (fail)
            have hV := ib_set hBk k y
            have hbV : Below g w (wr.setCell ⟨g, k, none⟩ (.int .i64 y)) := hR.below.setCell (p := ⟨g, k, none⟩) (Nat.le_refl _) _
            generalize wr.setCell ⟨g, k, none⟩ (.int .i64 y) = V at *
            have hlen : (ys.set k y).length = i := by rw [List.length_set]; exact hR.len
            have HDN : Hid (-1073741824 ≤ y ∧ y ≤ 1073741824 → ∀ (j : Nat) (x y' : Int), j < k + 1 → xs[j]? = some x → (ys.set k y)[j]? = some y' → x = ((max d 1 : Nat) : Int) * y' ∧ -1073741824 ≤ y' ∧ y' ≤ 1073741824) := (fun hb j x y' hj hx hy' => by
              by_cases e : j = k
              · subst e
                rw [List.getElem?_set_self (by rw [hR.len]; exact hlt2)] at hy'
                have := HZ.out.symm.trans hx
                cases this; cases hy'
                exact ⟨by rw [show max d 1 = d by omega]; exact HY.out, hb⟩
              · rw [List.getElem?_set_ne (fun h => e h.symm)] at hy'
                exact hR.done.out j x y' (by omega) hx hy' : -1073741824 ≤ y ∧ y ≤ 1073741824 → ∀ (j : Nat) (x y' : Int), j < k + 1 → xs[j]? = some x → (ys.set k y)[j]? = some y' → x = ((max d 1 : Nat) : Int) * y' ∧ -1073741824 ≤ y' ∧ y' ≤ 1073741824)
            have HRS : Hid (∀ j, k + 1 ≤ j → (ys.set k y)[j]? = xs[j]?) := (fun j hj => by rw [List.getElem?_set_ne (by omega)]; exact hR.rest.out j (by omega) : ∀ j, k + 1 ≤ j → (ys.set k y)[j]? = xs[j]?)
            have cV := ib_cell (i := k) (x := y) hV (List.getElem?_set_self (by rw [hR.len]; exact hlt2))
            have vz := hV.lt
            clear c0 f0 ht
            by_cases e1 : 1073741824 < y
            · have d1 : decide (1073741824 < y) = true := decide_eq_true e1
              have HE : Hid (RetRed g i xs w (.returned (.bool false)) V) := ⟨false, (ys.set k y), rfl, hV, hlen, (fun h => by cases h), hbV⟩
              clear e1
              go_wp2_with fail
              go_ret
              exact HE.out
            have d1 : decide (1073741824 < y) = false := decide_eq_false e1
            by_cases e2 : y < -1073741824
            · have d2 : decide (y < -1073741824) = true := decide_eq_true e2
              have HE : Hid (RetRed g i xs w (.returned (.bool false)) V) := ⟨false, (ys.set k y), rfl, hV, hlen, (fun h => by cases h), hbV⟩
              clear e1 e2
              go_wp2_with fail
              go_ret
              exact HE.out
            have d2 : decide (y < -1073741824) = false := decide_eq_false e2
            have HR' : RLoop g i (max d 1) (k + 1) xs (ys.set k y) w V := ⟨hV, hlen, HDN.out ⟨by omega, by omega⟩, HRS.out, hbV⟩
            clear e1 e2
            go_wp2_with fail
            go_roundw
            case rel => exact ⟨k + 1, (ys.set k y), by omega, by go_num, HR'⟩
            case measure => simp [intOf]; omega
          · have dd : decide (1 < d) = false := decide_eq_false h1
            have dd2 : decide ((1 : Int) < (d : Int)) = false := decide_eq_false (by omega)
            have HDN : Hid (-1073741824 ≤ z ∧ z ≤ 1073741824 → ∀ (j : Nat) (x y' : Int), j < k + 1 → xs[j]? = some x → ys[j]? = some y' → x = ((max d 1 : Nat) : Int) * y' ∧ -1073741824 ≤ y' ∧ y' ≤ 1073741824) := (fun hb j x y' hj hx hy' => by
              by_cases e : j = k
              · subst e
                have h5 := HZ.out.symm.trans hx
                have h6 := (hR.rest.out j (Nat.le_refl _)).symm.trans hy'
                have h8 := HZ.out.symm.trans h6
                cases h8; cases h5
                exact ⟨by rw [show max d 1 = 1 by omega]; simp, hb⟩
              · exact hR.done.out j x y' (by omega) hx hy' : -1073741824 ≤ z ∧ z ≤ 1073741824 → ∀ (j : Nat) (x y' : Int), j < k + 1 → xs[j]? = some x → ys[j]? = some y' → x = ((max d 1 : Nat) : Int) * y' ∧ -1073741824 ≤ y' ∧ y' ≤ 1073741824)
            have HRS : Hid (∀ j, k + 1 ≤ j → ys[j]? = xs[j]?) := (fun j hj => hR.rest.out j (by omega) : ∀ j, k + 1 ≤ j → ys[j]? = xs[j]?)
            clear hz hzy
            by_cases e1 : 1073741824 < z
            · have d1 : decide (1073741824 < z) = true := decide_eq_true e1
              have HE : Hid (RetRed g i xs w (.returned (.bool false)) wr) := ⟨false, ys, rfl, hBk, hR.len, (fun h => by cases h), hR.below⟩
              clear e1
              go_wp2_with fail
              go_ret
              exact HE.out
            have d1 : decide (1073741824 < z) = false := decide_eq_false e1
            by_cases e2 : z < -1073741824
            · have d2 : decide (z < -1073741824) = true := decide_eq_true e2
              have HE : Hid (RetRed g i xs w (.returned (.bool false)) wr) := ⟨false, ys, rfl, hBk, hR.len, (fun h => by cases h), hR.below⟩
              clear e1 e2
              go_wp2_with fail
              go_ret
              exact HE.out
            have d2 : decide (z < -1073741824) = false := decide_eq_false e2
            have HR' : RLoop g i (max d 1) (k + 1) xs ys w wr := ⟨hBk, hR.len, HDN.out ⟨by omega, by omega⟩, HRS.out, hR.below⟩
            clear e1 e2
            go_wp2_with fail
            go_roundw
            case rel => exact ⟨k + 1, ys, by omega, by go_num, HR'⟩
            case measure => simp [intOf]; omega
        · have e : k = i := by omega
          subst e
          have HE : Hid (RetRed g k xs w (.returned (.bool true)) wr) := ⟨true, ys, rfl, hR.box, hR.len, fun _ => ⟨by rw [hR.len, HN.out], ⟨max d 1, by omega, fun j x y hx hy => (hR.done.out j x y (by have := (List.getElem?_eq_some_iff.1 hx).1; have := HN.out; omega) hx hy).1⟩, fun j y hy => by
            have hj := (List.getElem?_eq_some_iff.1 hy).1
            have hxj : xs[j]? = some (xs[j]'(by have := HN.out; have := hR.len; omega)) := List.getElem?_eq_getElem _
            exact (hR.done.out j _ y (by have := hR.len; omega) hxj hy).2⟩, hR.below⟩
          go_wp2_with fail
          go_ret
          exact HE.out
end Go.Proofs.YtledagemcknlcaaGreat
namespace Go.Proofs.YtledagemcknlcaaGreat
open Go.RowKit

/-- number j of a form of N variables: the coefficients, and the constant -/
def qv (f : FD) (N j : Nat) : Rat := if j < N then coefT f.ts (j : Int) else f.k.q
def RetDen (f : FD) (N : Nat) (w : World) (e : Ending) (w' : World) : Prop :=
  ∃ ok ad n c xs, e = .returned (.tuple #[.slice ad n c, .bool ok]) ∧ Below w.heap.size w w' ∧ (ok = true → IntR w' ad n c xs ∧ n = N + 1 ∧ (∀ (i : Nat) (x : Int), xs[i]? = some x → -1073741824 ≤ x ∧ x ≤ 1073741824) ∧ ∃ g : Rat, 0 < g ∧ ∀ j, j ≤ N → ((xs.getD j 0 : Int) : Rat) = g * qv f N j)
/-- numerators and denominators under way -/
structure DLoop (w W V : World) (N i : Nat) (f : FD) (xs ds : List Int) : Prop where
  b1 : Blk V (w.heap.size + 1) 3 (icells xs)
  b2 : Blk V (w.heap.size + 1 + 1) 3 (icells ds)
  l1 : Hid (xs.length = N + 1)
  l2 : Hid (ds.length = N + 1)
  done : Hid (∀ j, j < i → xs[j]? = some (qv f N j).num ∧ ds[j]? = some ((qv f N j).den : Int) ∧ (-1073741824 ≤ (qv f N j).num ∧ (qv f N j).num ≤ 1073741824) ∧ (1 ≤ ((qv f N j).den : Int) ∧ ((qv f N j).den : Int) ≤ 1073741824))
  below : Below (w.heap.size + 1) W V
theorem DLoop.on {w W V V' : World} {N i : Nat} {f : FD} {xs ds : List Int} (h : DLoop w W V N i f xs ds) (hb : Below V.heap.size V V') : DLoop w W V' N i f xs ds :=
  ⟨h.b1.on hb, h.b2.on hb, h.l1, h.l2, h.done, h.below.trans (hb.mono (by have := h.b1.lt; omega))⟩
theorem DLoop.store {w W V : World} {N i i' : Nat} {f : FD} {xs ds : List Int} {n d : Int} (h : DLoop w W V N i' f xs ds) (hi : i ≤ N) (he : i' = i) (hn : n = (qv f N i).num ∧ -1073741824 ≤ n ∧ n ≤ 1073741824) (hd : d = ((qv f N i).den : Int) ∧ 1 ≤ d ∧ d ≤ 1073741824) :
    DLoop w W ((V.setCell ⟨w.heap.size + 1, i, none⟩ (.int .i64 n)).setCell ⟨w.heap.size + 1 + 1, i, none⟩ (.int .i64 d)) N (i + 1) f (xs.set i n) (ds.set i d) := by
  subst he
  obtain ⟨rfl, hn1, hn2⟩ := hn
  obtain ⟨rfl, hd1, hd2⟩ := hd
  refine ⟨(ib_set h.b1 _ _).far (p := ⟨w.heap.size + 1 + 1, _, none⟩) (by show w.heap.size + 1 ≠ w.heap.size + 1 + 1; omega) _, ib_set (h.b2.far (p := ⟨w.heap.size + 1, _, none⟩) (by show w.heap.size + 1 + 1 ≠ w.heap.size + 1; omega) _) _ _, ?_, ?_, ?_, (h.below.setCell (p := ⟨w.heap.size + 1, _, none⟩) (Nat.le_refl _) _).setCell (p := ⟨w.heap.size + 1 + 1, _, none⟩) (by show w.heap.size + 1 ≤ w.heap.size + 1 + 1; omega) _⟩
  · show (xs.set _ _).length = _; rw [List.length_set]; exact h.l1.out
  · show (ds.set _ _).length = _; rw [List.length_set]; exact h.l2.out
  · intro j hj
    by_cases e : j = i'
    · subst e
      have h1 := h.l1.out
      have h2 := h.l2.out
      exact ⟨List.getElem?_set_self (by omega), List.getElem?_set_self (by omega), ⟨hn1, hn2⟩, hd1, hd2⟩
    · rw [List.getElem?_set_ne (fun h9 => e h9.symm), List.getElem?_set_ne (fun h9 => e h9.symm)]
      exact h.done.out j (by omega)
theorem lcm_step {a d : Nat} (ha : 0 < a) (hd : 0 < d) : a ∣ a / Nat.gcd a d * d ∧ d ∣ a / Nat.gcd a d * d ∧ 0 < a / Nat.gcd a d * d := by
  have hg : 0 < Nat.gcd a d := Nat.gcd_pos_of_pos_left _ ha
  have h1 : a / Nat.gcd a d * d = Nat.lcm a d := by
    unfold Nat.lcm
    rw [Nat.div_mul_right_comm (Nat.gcd_dvd_left a d)]
  rw [h1]
  exact ⟨Nat.dvd_lcm_left _ _, Nat.dvd_lcm_right _ _, Nat.lcm_pos ha hd⟩
theorem DLoop.setx {w W V : World} {N i B : Nat} {f : FD} {xs ds : List Int} (h : DLoop w W V N i f xs ds) (hB : w.heap.size + 1 + 1 < B) (u v s : Value) : DLoop w W (((V.setCell ⟨B, 0, none⟩ u).setCell ⟨B, 1, none⟩ v).setCell ⟨B, 2, none⟩ s) N i f xs ds :=
  ⟨h.b1.farR (by omega) _ _ _, h.b2.farR (by omega) _ _ _, h.l1, h.l2, h.done, ((h.below.setCell (p := ⟨B, 0, none⟩) (by show w.heap.size + 1 ≤ B; omega) _).setCell (p := ⟨B, 1, none⟩) (by show w.heap.size + 1 ≤ B; omega) _).setCell (p := ⟨B, 2, none⟩) (by show w.heap.size + 1 ≤ B; omega) _⟩
theorem mul_small {p t : Int} (hp : -1073741824 ≤ p ∧ p ≤ 1073741824) (ht : 0 ≤ t ∧ t ≤ 1073741824) : -4611686018427387904 ≤ p * t ∧ p * t ≤ 4611686018427387904 := by
  have h1 : (p * t).natAbs ≤ 1073741824 * 1073741824 := by rw [Int.natAbs_mul]; exact Nat.mul_le_mul (by omega) (by omega)
  omega
theorem rnum (q : Rat) : q * (q.den : Rat) = (q.num : Rat) := by
  have h : q = (q.num : Rat) / (q.den : Rat) := by
    have h1 := Rat.mkRat_self q
    rw [Rat.mkRat_eq_div] at h1
    exact h1.symm
  have h2 : (q.den : Rat) ≠ 0 := by have := q.den_pos; have := Rat.natCast_pos.2 this; grind
  have h3 := h
  rw [eq_comm] at h3
  generalize (q.den : Rat) = d at *
  generalize (q.num : Rat) = n at *
  grind
theorem den_fin {q : Rat} {a D : Nat} {z : Int} (hd : ((q.den : Nat) : Int) ∣ (a : Int)) (hD : 0 < D) (h : q.num * ((a : Int) / (q.den : Int)) = D * z) : ((z : Int) : Rat) = ((a : Rat) / (D : Rat)) * q := by
  obtain ⟨t, ht⟩ := hd
  have hq0 : (q.den : Int) ≠ 0 := by have := q.den_pos; omega
  rw [ht, Int.mul_ediv_cancel_left _ hq0] at h
  have hq : q * (q.den : Rat) = (q.num : Rat) := rnum q
  have hDr : (D : Rat) ≠ 0 := by have := Rat.natCast_pos.2 hD; grind
  have h1 : ((q.num : Int) : Rat) * (t : Rat) = (D : Rat) * (z : Rat) := by
    have := congrArg (fun x : Int => (x : Rat)) h
    simpa [Rat.intCast_mul, Rat.intCast_natCast] using this
  have h2 : (a : Rat) = (q.den : Rat) * (t : Rat) := by
    have := congrArg (fun x : Int => (x : Rat)) ht
    simpa [Rat.intCast_mul, Rat.intCast_natCast] using this
  rw [h2]
  rw [← hq] at h1
  generalize (q.den : Rat) = d at *
  generalize (D : Rat) = e at *
  generalize (t : Rat) = u at *
  generalize (z : Rat) = v at *
  grind
theorem num_small {k : Nat} (h : smB (lmb k) = true) : smV (lmb k) = k ∧ k ≤ 1073741824 := by
  have h := of_decide_eq_true h
  unfold smV
  rcases Nat.lt_or_ge (lmb k).length 1 with h1 | h1
  · have h2 : k = 0 := lmb_len_zero.1 (by omega)
    subst h2
    exact ⟨by rw [lmb_eq_nil.2 rfl]; rfl, by omega⟩
  · have h2 := lmb_one' (k := k) (by omega)
    exact ⟨by rw [← h2], by omega⟩
theorem den_small {d : Nat} (hd : 0 < d) (h : smB (dlmb d) = true) : max (smV (dlmb d)) 1 = (d : Int) ∧ d ≤ 1073741824 := by
  unfold dlmb at h ⊢
  split at h
  · rename_i e
    subst e
    rw [if_pos rfl]
    exact ⟨rfl, by omega⟩
  · rename_i e
    obtain ⟨h1, h2⟩ := num_small h
    rw [if_neg e, h1]
    exact ⟨by omega, h2⟩
/-- the third loop: numerators multiplied -/
structure MLoop (w W V : World) (N k a : Nat) (xs ds ys : List Int) : Prop where
  b1 : Blk V (w.heap.size + 1) 3 (icells ys)
  b2 : Blk V (w.heap.size + 1 + 1) 3 (icells ds)
  len : ys.length = N + 1
  done : Hid (∀ j, j < k → ys[j]? = some (xs.getD j 0 * (a / ds.getD j 0)))
  rest : Hid (∀ j, k ≤ j → ys[j]? = xs[j]?)
  below : Below (w.heap.size + 1) W V
theorem MLoop.drew {w W V : World} {N k a : Nat} {xs ds ys : List Int} (h : MLoop w W V N k a xs ds ys) : MLoop w W V.drew N k a xs ds ys :=
  ⟨h.b1.on (Below.drewN (Below.refl V.heap.size V) 1), h.b2.on (Below.drewN (Below.refl V.heap.size V) 1), h.len, h.done, h.rest, Below.drewN h.below 1⟩
theorem MLoop.store {w W V : World} {N k k' a : Nat} {xs ds ys : List Int} {y : Int} (h : MLoop w W V N k' a xs ds ys) (he : k' = k) (hk : k ≤ N) (hy : y = xs.getD k 0 * (a / ds.getD k 0)) :
    MLoop w W (V.setCell ⟨w.heap.size + 1, k, none⟩ (.int .i64 y)) N (k + 1) a xs ds (ys.set k y) := by
  subst he
  refine ⟨ib_set h.b1 _ _, h.b2.far (p := ⟨w.heap.size + 1, _, none⟩) (by show w.heap.size + 1 + 1 ≠ w.heap.size + 1; omega) _, ?_, ?_, ?_, h.below.setCell (p := ⟨w.heap.size + 1, _, none⟩) (Nat.le_refl _) _⟩
  · rw [List.length_set]; exact h.len
  · intro j hj
    by_cases e : j = k'
    · subst e
      rw [List.getElem?_set_self (by have := h.len; omega), hy]
    · rw [List.getElem?_set_ne (fun h9 => e h9.symm)]
      exact h.done.out j (by omega)
  · intro j hj
    rw [List.getElem?_set_ne (by omega)]
    exact h.rest.out j (by omega)
set_option maxRecDepth 100000 in
set_option maxHeartbeats 25600000 in
theorem dense_aux (w : World) {f : FD} {m N : Nat} {kn : Bool} (hkn : Hid (f.k.neg = kn)) (h : f.In w) (ho : OkFD m f) (hm : m ≤ 34359738368) (hNm : N ≤ 1048575) :
    Calls Tryz.prog 42 #[.agg #[.slice f.ad f.n f.c, .bool kn, .slice f.k.a1 f.k.n1 f.k.c1, .slice f.k.a2 f.k.n2 f.k.c2], .int .i64 (N : Int)] w (RetDen f N w) := by
  have hmk := Tryz.mkInts ((N : Int) + 1) (N + 1) (by omega) (by omega)
  have hP := Pro3.mk' w #[.slice f.ad f.n f.c, .bool kn, .slice f.k.a1 f.k.n1 f.k.c1, .slice f.k.a2 f.k.n2 f.k.c2] (madeCells #[.int .i64 0] (N + 1)) (madeCells #[.int .i64 0] (N + 1)) 29 3 3
  go_enter Tryz.func42, Tryz.ntmps42
  go_upto_region 3 with (fail)
  clear hmk
  generalize ((w.alloc (.cells #[.slice f.ad f.n f.c, .bool kn, .slice f.k.a1 f.k.n1 f.k.c1, .slice f.k.a2 f.k.n2 f.k.c2] 29)).alloc (.cells (madeCells #[.int .i64 0] (N + 1)) 3)).alloc (.cells (madeCells #[.int .i64 0] (N + 1)) 3) = W at *
  have hPb := hP.below
  have HPS := Lib.hid hP.size
  have HO := Lib.hid ho
  have hA := hP.b0
  have hD0 : DLoop w W W N 0 f (List.replicate (N + 1) 0) (List.replicate (N + 1) 0) := ⟨by rw [← icells_made]; exact hP.b1, by rw [← icells_made]; exact hP.b2, List.length_replicate, List.length_replicate, (fun j hj => by omega : ∀ j, j < 0 → _), Below.refl _ _⟩
  clear hP ho
  go_wp2_with fail
  go_loopw [8] (fun s8 wr => ∃ i xs ds, i ≤ N + 1 ∧ s8 = .int .i64 (i : Nat) ∧ DLoop w W wr N i f xs ds) (fun i _ => N + 1 - (intOf i).toNat)
  case atStart => exact ⟨0, _, _, by omega, rfl, hD0⟩
  case round =>
    clear hD0
    obtain ⟨i, xs, ds, hi, rfl, hD⟩ := hrel
    have hAr := hA.below hD.below (by omega)
    have hbw := hPb.trans (hD.below.mono (by omega))
    have fr := h.on hbw
    have k0 := hAr.cell 0
    have k1 := hAr.cell 1
    have k2 := hAr.cell 2
    have k3 := hAr.cell 3
    simp at k0 k1 k2 k3
    have kz := hAr.lt
    by_cases hlt : i ≤ N
    · have hQ := Pro1.mk' wr #[.bool kn, .slice f.k.a1 f.k.n1 f.k.c1, .slice f.k.a2 f.k.n2 f.k.c2] 27
      go_upto_region 7 with (fail)
      generalize wr.alloc (.cells #[.bool kn, .slice f.k.a1 f.k.n1 f.k.c1, .slice f.k.a2 f.k.n2 f.k.c2] 27) = X at *
      have hDX := hD.on hQ.below
      have HXZ := Lib.hid hD.b2.lt
      have hxX := hQ.b0
      have fX := fr.on hQ.below
      have hAX := hAr.on hQ.below
      clear hQ k0 k1 k2 k3 kz hbw fr hAr hD
      have k0 := hAX.cell 0
      have k1 := hAX.cell 1
      have k2 := hAX.cell 2
      have k3 := hAX.cell 3
      simp at k0 k1 k2 k3
      have kz := hAX.lt
      by_cases hlt2 : i < N
      · have HQI : Hid (qv f N i = coefT f.ts (i : Int)) := if_pos hlt2
        have HHQ : Hid (H (coefT f.ts (i : Int)) ≤ 68719476736) := Nat.le_trans (coefT_H HO.out.ts _) (by omega)
        obtain rfl := hkn.out
        go_wp2_with fail
        refine (fcoef_c X (f := f) (i : Int) fX HO.out).mono ?_
        rintro e w5 ⟨s5, a5, n5, c5, a6, n6, c6, rfl, g5', hb5⟩
        have hxb5 := hxX.on hb5
        have hD5 := hDX.on hb5
        have x3 := hxb5.frozen 0
        have x4 := hxb5.frozen 1
        have x5 := hxb5.frozen 2
        have x0 := hxb5.cell 0
        have x1 := hxb5.cell 1
        have x2 := hxb5.cell 2
        simp at x0 x1 x2
        have xz := hxb5.lt
        have hDV : DLoop w W (((w5.setCell ⟨wr.heap.size, 0, none⟩ (.bool s5)).setCell ⟨wr.heap.size, 1, none⟩ (.slice a5 n5 c5)).setCell ⟨wr.heap.size, 2, none⟩ (.slice a6 n6 c6)) N i f xs ds := hD5.setx (by have := hDX.b2.lt; have := HXZ.out; omega) _ _ _
        have hxV := hxb5.setR (.bool s5) (.slice a5 n5 c5) (.slice a6 n6 c6)
        have gV := g5'.inR hxb5 (.bool s5) (.slice a5 n5 c5) (.slice a6 n6 c6)
        go_upto_region 9 with (fail)
        generalize ((w5.setCell ⟨wr.heap.size, 0, none⟩ (.bool s5)).setCell ⟨wr.heap.size, 1, none⟩ (.slice a5 n5 c5)).setCell ⟨wr.heap.size, 2, none⟩ (.slice a6 n6 c6) = V at *
        clear x0 x1 x2 x3 x4 x5 xz hxb5 hD5 hxX hDX hb5 g5' k0 k1 k2 k3 kz hAX fX
        have HQ : Hid (qv f N i = coefT f.ts (i : Int)) := HQI
        obtain ⟨q, HQQ⟩ : ∃ q, Hid (q = coefT f.ts (i : Int)) := ⟨_, Lib.hid rfl⟩
        have g5 : RatC V s5 a5 n5 c5 a6 n6 c6 q := by rw [HQQ.out]; exact gV
        have HQ2 : Hid (qv f N i = q) := HQ.out.trans HQQ.out.symm
        have hHq : H q ≤ 68719476736 := by rw [HQQ.out]; exact HHQ.out
        clear HQ HQQ
        have x0 := hxV.cell 0
        have x1 := hxV.cell 1
        have x2 := hxV.cell 2
        simp at x0 x1 x2
        have xz := hxV.lt
        go_wp2_with fail
        refine (small_num V g5.num (by have := g5.n1_le; omega)).mono ?_
        rintro e w7 ⟨rfl, hb7⟩
        have hxb7 := hxV.on hb7
        clear x0 x1 x2 xz
        have x0 := hxb7.cell 0
        have x1 := hxb7.cell 1
        have x2 := hxb7.cell 2
        simp at x0 x1 x2
        have xz := hxb7.lt
        have g7 := RatC.on g5 hb7
        go_wp2_with fail
        refine (small_num w7 g7.den (by have := g7.n2_le; omega)).mono ?_
        rintro e w8 ⟨rfl, hb8⟩
        have hb78 := hb7.trans (hb8.mono hb7.size)
        have hD8 := hDV.on hb78
        have hxb8 := hxV.on hb78
        clear x0 x1 x2 xz
        have x0 := hxb8.cell 0
        have x1 := hxb8.cell 1
        have x2 := hxb8.cell 2
        simp at x0 x1 x2
        have xz := hxb8.lt
        have HS5 := g5.sign
        have hbF := hPb.trans (hD8.below.mono (by omega))
        have HNO : Hid (RetDen f N w (.returned (.tuple #[.slice none 0 0, .bool false])) w8) := ⟨false, none, 0, 0, [], rfl, hbF, fun h => by cases h⟩
        clear hbF
        rcases b1 : smB (lmb q.num.natAbs) with _ | _
        · clear b1
          go_wp2_with fail
          go_ret2
          exact HNO.out
        rcases b2 : smB (dlmb q.den) with _ | _
        · clear b1 b2
          go_wp2_with fail
          go_ret2
          exact HNO.out
        obtain ⟨hn1, hn2⟩ := num_small b1
        obtain ⟨hd1, hd2⟩ := den_small q.den_pos b2
        have hd3 := q.den_pos
        have HD1 := Lib.hid hd1
        clear hd1
        have HNB : Hid (q.num = (qv f N i).num ∧ -1073741824 ≤ q.num ∧ q.num ≤ 1073741824) := by rw [HQ2.out]; exact ⟨rfl, by omega⟩
        have HDB : Hid (((q.den : Nat) : Int) = ((qv f N i).den : Int) ∧ 1 ≤ ((q.den : Nat) : Int) ∧ ((q.den : Nat) : Int) ≤ 1073741824) := by rw [HQ2.out]; exact ⟨rfl, by omega⟩
        rw [hn1]
        clear b1 b2 hn1 HNO
        generalize smV (dlmb q.den) = dv at *
        by_cases hs : q.num < 0
        · obtain rfl : s5 = true := by rw [HS5.out]; exact decide_eq_true hs
          have hz : -((q.num.natAbs : Nat) : Int) = q.num := by omega
          have HZ := Lib.hid hz
          clear hz
          go_upto_region 15 with (fail)
          rw [HZ.out]
          clear HZ
          have hmx := HD1.out
          have e1 := hD8.b1.frozen i
          have e2 := hD8.b2.frozen i
          have e3 := hD8.b1.lt
          have e4 := hD8.b2.lt
          obtain ⟨y1, hy1⟩ : ∃ y, xs[i]? = some y := ⟨xs[i]'(by have := hD8.l1.out; omega), List.getElem?_eq_getElem _⟩
          obtain ⟨y2, hy2⟩ : ∃ y, ds[i]? = some y := ⟨ds[i]'(by have := hD8.l2.out; omega), List.getElem?_eq_getElem _⟩
          have e5 := ib_cell hD8.b1 hy1
          have e6 := ib_cell hD8.b2 hy2
          clear hy1 hy2
          have HD := Lib.hid (hD8.store (i := i) (by omega) rfl HNB.out HDB.out)
          go_wp2_with fail
          go_roundw
          case rel => exact ⟨i + 1, _, _, by omega, by go_num, HD.out⟩
          case measure => simp [intOf]; omega
        · obtain rfl : s5 = false := by rw [HS5.out]; exact decide_eq_false hs
          have hz : ((q.num.natAbs : Nat) : Int) = q.num := by omega
          have HZ := Lib.hid hz
          clear hz
          go_upto_region 15 with (fail)
          rw [HZ.out]
          clear HZ
          have hmx := HD1.out
          have e1 := hD8.b1.frozen i
          have e2 := hD8.b2.frozen i
          have e3 := hD8.b1.lt
          have e4 := hD8.b2.lt
          obtain ⟨y1, hy1⟩ : ∃ y, xs[i]? = some y := ⟨xs[i]'(by have := hD8.l1.out; omega), List.getElem?_eq_getElem _⟩
          obtain ⟨y2, hy2⟩ : ∃ y, ds[i]? = some y := ⟨ds[i]'(by have := hD8.l2.out; omega), List.getElem?_eq_getElem _⟩
          have e5 := ib_cell hD8.b1 hy1
          have e6 := ib_cell hD8.b2 hy2
          clear hy1 hy2
          have HD := Lib.hid (hD8.store (i := i) (by omega) rfl HNB.out HDB.out)
          go_wp2_with fail
          go_roundw
          case rel => exact ⟨i + 1, _, _, by omega, by go_num, HD.out⟩
          case measure => simp [intOf]; omega
      · have HQI : Hid (qv f N i = f.k.q) := if_neg hlt2
        have HHQ : Hid (H f.k.q ≤ 68719476736) := Nat.le_trans HO.out.kH (by omega)
        have gV : RatC X f.k.neg f.k.a1 f.k.n1 f.k.c1 f.k.a2 f.k.n2 f.k.c2 f.k.q := RD.ok_c fX.const HO.out.k
        rw [hkn.out] at gV
        go_upto_region 9 with (fail)
        clear k0 k1 k2 k3 kz hAX fX
        have HQ : Hid (qv f N i = f.k.q) := HQI
        obtain ⟨q, HQQ⟩ : ∃ q, Hid (q = f.k.q) := ⟨_, Lib.hid rfl⟩
        have g5 : RatC X kn f.k.a1 f.k.n1 f.k.c1 f.k.a2 f.k.n2 f.k.c2 q := by rw [HQQ.out]; exact gV
        have HQ2 : Hid (qv f N i = q) := HQ.out.trans HQQ.out.symm
        have hHq : H q ≤ 68719476736 := by rw [HQQ.out]; exact HHQ.out
        clear HQ HQQ
        have x0 := hxX.cell 0
        have x1 := hxX.cell 1
        have x2 := hxX.cell 2
        simp at x0 x1 x2
        have xz := hxX.lt
        go_wp2_with fail
        refine (small_num X g5.num (by have := g5.n1_le; omega)).mono ?_
        rintro e w7 ⟨rfl, hb7⟩
        have hxb7 := hxX.on hb7
        clear x0 x1 x2 xz
        have x0 := hxb7.cell 0
        have x1 := hxb7.cell 1
        have x2 := hxb7.cell 2
        simp at x0 x1 x2
        have xz := hxb7.lt
        have g7 := RatC.on g5 hb7
        go_wp2_with fail
        refine (small_num w7 g7.den (by have := g7.n2_le; omega)).mono ?_
        rintro e w8 ⟨rfl, hb8⟩
        have hb78 := hb7.trans (hb8.mono hb7.size)
        have hD8 := hDX.on hb78
        have hxb8 := hxX.on hb78
        clear x0 x1 x2 xz
        have x0 := hxb8.cell 0
        have x1 := hxb8.cell 1
        have x2 := hxb8.cell 2
        simp at x0 x1 x2
        have xz := hxb8.lt
        have HS5 := g5.sign
        have hbF := hPb.trans (hD8.below.mono (by omega))
        have HNO : Hid (RetDen f N w (.returned (.tuple #[.slice none 0 0, .bool false])) w8) := ⟨false, none, 0, 0, [], rfl, hbF, fun h => by cases h⟩
        clear hbF
        rcases b1 : smB (lmb q.num.natAbs) with _ | _
        · clear b1
          go_wp2_with fail
          go_ret2
          exact HNO.out
        rcases b2 : smB (dlmb q.den) with _ | _
        · clear b1 b2
          go_wp2_with fail
          go_ret2
          exact HNO.out
        obtain ⟨hn1, hn2⟩ := num_small b1
        obtain ⟨hd1, hd2⟩ := den_small q.den_pos b2
        have hd3 := q.den_pos
        have HD1 := Lib.hid hd1
        clear hd1
        have HNB : Hid (q.num = (qv f N i).num ∧ -1073741824 ≤ q.num ∧ q.num ≤ 1073741824) := by rw [HQ2.out]; exact ⟨rfl, by omega⟩
        have HDB : Hid (((q.den : Nat) : Int) = ((qv f N i).den : Int) ∧ 1 ≤ ((q.den : Nat) : Int) ∧ ((q.den : Nat) : Int) ≤ 1073741824) := by rw [HQ2.out]; exact ⟨rfl, by omega⟩
        rw [hn1]
        clear b1 b2 hn1 HNO
        generalize smV (dlmb q.den) = dv at *
        by_cases hs : q.num < 0
        · obtain rfl : kn = true := by rw [HS5.out]; exact decide_eq_true hs
          have hz : -((q.num.natAbs : Nat) : Int) = q.num := by omega
          have HZ := Lib.hid hz
          clear hz
          go_upto_region 15 with (fail)
          rw [HZ.out]
          clear HZ
          have hmx := HD1.out
          have e1 := hD8.b1.frozen i
          have e2 := hD8.b2.frozen i
          have e3 := hD8.b1.lt
          have e4 := hD8.b2.lt
          obtain ⟨y1, hy1⟩ : ∃ y, xs[i]? = some y := ⟨xs[i]'(by have := hD8.l1.out; omega), List.getElem?_eq_getElem _⟩
          obtain ⟨y2, hy2⟩ : ∃ y, ds[i]? = some y := ⟨ds[i]'(by have := hD8.l2.out; omega), List.getElem?_eq_getElem _⟩
          have e5 := ib_cell hD8.b1 hy1
          have e6 := ib_cell hD8.b2 hy2
          clear hy1 hy2
          have HD := Lib.hid (hD8.store (i := i) (by omega) rfl HNB.out HDB.out)
          go_wp2_with fail
          go_roundw
          case rel => exact ⟨i + 1, _, _, by omega, by go_num, HD.out⟩
          case measure => simp [intOf]; omega
        · obtain rfl : kn = false := by rw [HS5.out]; exact decide_eq_false hs
          have hz : ((q.num.natAbs : Nat) : Int) = q.num := by omega
          have HZ := Lib.hid hz
          clear hz
          go_upto_region 15 with (fail)
          rw [HZ.out]
          clear HZ
          have hmx := HD1.out
          have e1 := hD8.b1.frozen i
          have e2 := hD8.b2.frozen i
          have e3 := hD8.b1.lt
          have e4 := hD8.b2.lt
          obtain ⟨y1, hy1⟩ : ∃ y, xs[i]? = some y := ⟨xs[i]'(by have := hD8.l1.out; omega), List.getElem?_eq_getElem _⟩
          obtain ⟨y2, hy2⟩ : ∃ y, ds[i]? = some y := ⟨ds[i]'(by have := hD8.l2.out; omega), List.getElem?_eq_getElem _⟩
          have e5 := ib_cell hD8.b1 hy1
          have e6 := ib_cell hD8.b2 hy2
          clear hy1 hy2
          have HD := Lib.hid (hD8.store (i := i) (by omega) rfl HNB.out HDB.out)
          go_wp2_with fail
          go_roundw
          case rel => exact ⟨i + 1, _, _, by omega, by go_num, HD.out⟩
          case measure => simp [intOf]; omega
    · have HE1 := Lib.hid (show i = N + 1 by omega)
      clear hi
      obtain ⟨wo, hwo⟩ : ∃ wo : World, wo = wr := ⟨_, rfl⟩
      subst hwo
      have HM : Hid (∀ (i : Nat) (y : Int), ds[i]? = some y → 1 ≤ y ∧ y ≤ 1073741824) := (fun i y hy => by
        have hj := (List.getElem?_eq_some_iff.1 hy).1
        have h1 := (hD.done.out i (by have := hD.l2.out; have := HE1.out; omega)).2
        rw [hy] at h1
        have := h1.1
        cases this
        exact h1.2.2 : ∀ (i : Nat) (y : Int), ds[i]? = some y → 1 ≤ y ∧ y ≤ 1073741824)
      clear k0 k1 k2 k3 kz hAr fr
      go_wp2_with fail
      go_loopw [14, 15] (fun s14 s15 wr => ∃ i a : Nat, i ≤ N + 1 ∧ s15 = .int .i64 (i : Nat) ∧ s14 = .int .i64 (a : Nat) ∧ 1 ≤ a ∧ a ≤ 1073741824 ∧ Hid (∀ (j : Nat) (y : Int), j < i → ds[j]? = some y → y ∣ (a : Int)) ∧ Below wo.heap.size wo wr) (fun _ i _ => N + 1 - (intOf i).toNat)
      case atStart => exact ⟨0, 1, by omega, rfl, rfl, by omega, by omega, (fun j y hj => by omega : ∀ (j : Nat) (y : Int), j < 0 → ds[j]? = some y → y ∣ ((1 : Nat) : Int)), Below.refl _ _⟩
      case round =>
        obtain ⟨i, a, hi, rfl, rfl, ha1, ha2, HI, hb⟩ := hrel
        have hDx := hD.on hb
        by_cases hlt : i ≤ N
        · obtain ⟨z, hz⟩ : ∃ z, ds[i]? = some z := ⟨ds[i]'(by have := hD.l2.out; omega), List.getElem?_eq_getElem _⟩
          obtain ⟨hz1, hz2⟩ := HM.out i z hz
          have c0 := ib_cell hDx.b2 hz
          have cz := hDx.b2.lt
          obtain ⟨d, rfl⟩ : ∃ d : Nat, z = (d : Int) := ⟨z.toNat, by omega⟩
          have HZ := Lib.hid hz
          clear hz
          have lo : decide ((i : Int) < 0) = false := decide_eq_false (by omega)
          have hi' : decide ((N : Int) + 1 ≤ (i : Int)) = false := decide_eq_false (by omega)
          obtain ⟨hcx, hfx⟩ := upcell wr
          have hgp : 0 < Nat.gcd a d := Nat.gcd_pos_of_pos_left _ (by omega)
          have HV : Hid (∀ x9 : Up wr, Calls Tryz.prog 69 #[.int .i64 (a : Int), .int .i64 (d : Int)] x9.w (RetInt (Nat.gcd a d : Nat) x9.w)) := fun x9 => gcd_c x9.w a d (by omega) (by omega)
          have HLC := Lib.hid (lcm_step (a := a) (d := d) (by omega) (by omega))
          have hle : a / Nat.gcd a d * d ≤ 1073741824 * 1073741824 := Nat.mul_le_mul (Nat.le_trans (Nat.div_le_self _ _) ha2) (by omega)
          have hq1 : a / Nat.gcd a d ≤ 1073741824 := Nat.le_trans (Nat.div_le_self _ _) ha2
          generalize Nat.gcd a d = K at *
          obtain ⟨E, hE⟩ : ∃ E, E = a / K := ⟨_, rfl⟩
          rw [← hE] at hle hq1 HLC
          have ht : Int.tdiv (a : Int) (K : Int) = (E : Int) := by rw [hE]; rfl
          clear hE
          have dz : ((K : Int) == 0) = false := by simp; omega
          go_upto_region 20 with (fail)
          refine wp_region_up (by kernel_rfl) (by kernel_rfl) ?_
          repeat (go_big_quiet_step ((go_at_call 69; exact up_i (HV.out _))))
          refine wpQuiet_nil ?_
          intro x
          have hbx := hb.trans (x.below.mono hb.size)
          obtain ⟨A2, hA2⟩ : ∃ A2, A2 = E * d := ⟨_, rfl⟩
          rw [← hA2] at hle HLC
          rw [show ((E : Int) * (d : Int)) = ((A2 : Nat) : Int) by rw [hA2]; rfl]
          clear hA2
          have hbF := hPb.trans ((hD.on hbx).below.mono (by omega))
          have HNO : Hid (RetDen f N w (.returned (.tuple #[.slice none 0 0, .bool false])) x.w) := ⟨false, none, 0, 0, [], rfl, hbF, fun h => by cases h⟩
          clear hbF
          by_cases e1 : 1073741824 < A2
          · have d1 : decide (1073741824 < A2) = true := decide_eq_true e1
            have d2 : decide ((1073741824 : Int) < (A2 : Int)) = true := decide_eq_true (by omega)
            clear e1
            go_wp2_with fail
            go_ret2
            exact HNO.out
          · have d1 : decide (1073741824 < A2) = false := decide_eq_false e1
            have d2 : decide ((1073741824 : Int) < (A2 : Int)) = false := decide_eq_false (by omega)
            clear HNO
            have HI2 : Hid (∀ (j : Nat) (y : Int), j < i + 1 → ds[j]? = some y → y ∣ (A2 : Int)) := (fun j y hj hy => by
              rcases Nat.lt_or_ge j i with h | h
              · exact Int.dvd_trans (HI.out j y h hy) (Int.ofNat_dvd.2 HLC.out.1)
              · have e : j = i := by omega
                subst e
                have := HZ.out.symm.trans hy
                cases this
                exact Int.ofNat_dvd.2 HLC.out.2.1 : ∀ (j : Nat) (y : Int), j < i + 1 → ds[j]? = some y → y ∣ (A2 : Int))
            have hA1 : 1 ≤ A2 := HLC.out.2.2
            have hA3 : A2 ≤ 1073741824 := by omega
            clear e1 HI
            go_wp2_with fail
            go_roundw
            case rel => exact ⟨i + 1, A2, by omega, by go_num, rfl, hA1, hA3, HI2, hbx⟩
            case measure => simp [intOf]; omega
        · have HE2 := Lib.hid (show i = N + 1 by omega)
          clear hi
          have HDD : Hid (∀ (j : Nat) (y : Int), ds[j]? = some y → y ∣ (a : Int)) := (fun j y hy => HI.out j y (by have h1 := (List.getElem?_eq_some_iff.1 hy).1; have := hD.l2.out; have := HE2.out; omega) hy : ∀ (j : Nat) (y : Int), ds[j]? = some y → y ∣ (a : Int))
          clear HI
          have HDN : Hid (∀ j, j < N + 1 → xs[j]? = some (qv f N j).num ∧ ds[j]? = some ((qv f N j).den : Int) ∧ (-1073741824 ≤ (qv f N j).num ∧ (qv f N j).num ≤ 1073741824) ∧ (1 ≤ ((qv f N j).den : Int) ∧ ((qv f N j).den : Int) ≤ 1073741824)) := (fun j hj => hD.done.out j (by have := HE1.out; omega) : ∀ j, j < N + 1 → xs[j]? = some (qv f N j).num ∧ ds[j]? = some ((qv f N j).den : Int) ∧ (-1073741824 ≤ (qv f N j).num ∧ (qv f N j).num ≤ 1073741824) ∧ (1 ≤ ((qv f N j).den : Int) ∧ ((qv f N j).den : Int) ≤ 1073741824))
          have HL1 := hD.l1
          have HL2 := hD.l2
          have hM0 : MLoop w W wr N 0 a xs ds xs := ⟨hDx.b1, hDx.b2, HL1.out, (fun j hj => by omega : ∀ j, j < 0 → xs[j]? = some (xs.getD j 0 * (a / ds.getD j 0))), (fun j _ => rfl : ∀ j, 0 ≤ j → xs[j]? = xs[j]?), hDx.below⟩
          clear hD hDx hb
          have HA2 := Lib.hid ha2
          go_wp2_with fail
          go_loopw [16] (fun s16 wr => ∃ k ys, k ≤ N + 1 ∧ s16 = .int .i64 (k : Nat) ∧ MLoop w W wr N k a xs ds ys) (fun k _ => N + 1 - (intOf k).toNat)
          case atStart => exact ⟨0, xs, by omega, rfl, hM0⟩
          case round =>
            clear hM0
            obtain ⟨k, ys, hk, rfl, hM⟩ := hrel
            have hMb := hM.b1.lt
            have hMb2 := hM.b2.lt
            by_cases hlt2 : k ≤ N
            · obtain ⟨h1, h2, h3, h4⟩ := HDN.out k (by omega)
              have h5 : ys[k]? = some (qv f N k).num := (hM.rest.out k (Nat.le_refl _)).trans h1
              have h6 := HDD.out k _ h2
              have h7 : xs.getD k 0 = (qv f N k).num := by rw [List.getD_eq_getElem?_getD, h1]; rfl
              have h8 : ds.getD k 0 = ((qv f N k).den : Int) := by rw [List.getD_eq_getElem?_getD, h2]; rfl
              have h9 : (qv f N k).num * ((a : Int) / ((qv f N k).den : Int)) = xs.getD k 0 * (a / ds.getD k 0) := by rw [h7, h8]
              generalize hzz : ((qv f N k).den : Int) = z at *
              generalize (qv f N k).num = p at *
              have hz0 : 0 < z := by omega
              have ht : Int.tdiv (a : Int) z = (a : Int) / z := Int.tdiv_eq_ediv_of_dvd h6
              have hq : 0 ≤ (a : Int) / z ∧ (a : Int) / z ≤ 1073741824 := ⟨Int.ediv_nonneg (by omega) (by omega), Int.le_trans (Int.ediv_le_self _ (by omega)) (by omega)⟩
              have H9 := Lib.hid h9
              generalize (a : Int) / z = t at *
              have c0 := ib_cell hM.b1 h5
              have c1' := ib_cell hM.b2 h2
              have f0 := hM.b1.frozen k
              have dz : (z == 0) = false := by simp; omega
              have lo : decide ((k : Int) < 0) = false := decide_eq_false (by omega)
              have hi' : decide ((N : Int) + 1 ≤ (k : Int)) = false := decide_eq_false (by omega)
              have kl : (k : Int) < (N : Int) + 1 := by omega
              have kl0 : (0 : Int) ≤ (k : Int) := by omega
              have hpt : -4611686018427387904 ≤ p * t ∧ p * t ≤ 4611686018427387904 := mul_small h3 hq
              clear h1 h2 h5 h6 h7 h8 h9 hzz
              have hzn : ¬ (z = 0) := by omega
              have wt : IntKind.i64.wrap t = t := IntWalk.i64_in _ (by omega)
              have wpt : IntKind.i64.wrap (p * t) = p * t := IntWalk.i64_in _ (by omega)
              go_upto_region 26 with (fail)
              refine wp_region_T 14 (fun w' => w'.cell? ⟨w.heap.size + 1, k, none⟩ = some (.int .i64 p) ∧ w'.cell? ⟨w.heap.size + 1 + 1, k, none⟩ = some (.int .i64 z)) (by kernel_rfl) (by (try dsimp only); go_keep) (fun hHeld => ?_)
              refine wpT_take 0 (v := ?_) rfl (by kernel_rfl) (fun _ _ _ h => h) (by rfl) (by assumption) ?_ ?_
              rotate_left
              · (intro w9 hS9; (try dsimp only at hS9); go_simp; try with_reducible rfl)
              try simp only [Act.put, List.setIfInBounds_toArray, List.set_cons_zero, List.set_cons_succ]
              refine wpT_take 1 (v := ?_) rfl (by kernel_rfl) (fun _ _ _ h => h) (by rfl) (by assumption) ?_ ?_
              rotate_left
              · (intro w9 hS9; (try dsimp only at hS9); go_simp; try with_reducible rfl)
              try simp only [Act.put, List.setIfInBounds_toArray, List.set_cons_zero, List.set_cons_succ]
              refine wpT_take 2 (v := ?_) rfl (by kernel_rfl) (fun _ _ _ h => h) (by rfl) (by assumption) ?_ ?_
              rotate_left
              · (intro w9 hS9; (try dsimp only at hS9); go_simp; try with_reducible rfl)
              try simp only [Act.put, List.setIfInBounds_toArray, List.set_cons_zero, List.set_cons_succ]
              refine wpT_take 3 (v := ?_) rfl (by kernel_rfl) (fun _ _ _ h => h) (by rfl) (by assumption) ?_ ?_
              rotate_left
              · (intro w9 hS9; (try dsimp only at hS9); go_simp; try with_reducible rfl)
              try simp only [Act.put, List.setIfInBounds_toArray, List.set_cons_zero, List.set_cons_succ]
              refine wpT_take 4 (v := ?_) rfl (by kernel_rfl) (fun _ _ _ h => h) (by rfl) (by assumption) ?_ ?_
              rotate_left
              · (intro w9 hS9; (try dsimp only at hS9); go_simp; try with_reducible rfl)
              try simp only [Act.put, List.setIfInBounds_toArray, List.set_cons_zero, List.set_cons_succ]
              refine wpT_take 5 (v := ?_) rfl (by kernel_rfl) (fun _ _ _ h => h) (by rfl) (by assumption) ?_ ?_
              rotate_left
              · (intro w9 hS9; (try dsimp only at hS9); go_simp; try with_reducible rfl)
              try simp only [Act.put, List.setIfInBounds_toArray, List.set_cons_zero, List.set_cons_succ]
              refine wpT_take 6 (v := ?_) rfl (by kernel_rfl) (fun _ _ _ h => h) (by rfl) (by assumption) ?_ ?_
              rotate_left
              · (intro w9 hS9; (try dsimp only at hS9); go_simp; try with_reducible rfl)
              try simp only [Act.put, List.setIfInBounds_toArray, List.set_cons_zero, List.set_cons_succ]
              refine wpT_take 7 (v := ?_) rfl (by kernel_rfl) (fun _ _ _ h => h) (by rfl) (by assumption) ?_ ?_
              rotate_left
              · (intro w9 hS9; (try dsimp only at hS9); go_simp; try with_reducible rfl)
              try simp only [Act.put, List.setIfInBounds_toArray, List.set_cons_zero, List.set_cons_succ]
              refine wpT_take 8 (v := ?_) rfl (by kernel_rfl) (fun _ _ _ h => h) (by rfl) (by assumption) ?_ ?_
              rotate_left
              · (intro w9 hS9; (try dsimp only at hS9); go_simp; try with_reducible rfl)
              try simp only [Act.put, List.setIfInBounds_toArray, List.set_cons_zero, List.set_cons_succ]
              refine wpT_take 9 (v := ?_) rfl (by kernel_rfl) (fun _ _ _ h => h) (by rfl) (by assumption) ?_ ?_
              rotate_left
              · (intro w9 hS9; (try dsimp only at hS9); go_simp; try with_reducible rfl)
              try simp only [Act.put, List.setIfInBounds_toArray, List.set_cons_zero, List.set_cons_succ]
              refine wpT_take 10 (v := ?_) rfl (by kernel_rfl) (fun _ _ _ h => h) (by rfl) (by assumption) ?_ ?_
              rotate_left
              · (intro w9 hS9; (try dsimp only at hS9); go_simp; try with_reducible rfl)
              try simp only [Act.put, List.setIfInBounds_toArray, List.set_cons_zero, List.set_cons_succ]
              refine wpT_take 11 (v := ?_) rfl (by kernel_rfl) (fun _ _ _ h => h) (by rfl) (by assumption) ?_ ?_
              rotate_left
              · (intro w9 hS9; (try dsimp only at hS9); go_simp; try with_reducible rfl)
              try simp only [Act.put, List.setIfInBounds_toArray, List.set_cons_zero, List.set_cons_succ]
              refine wpT_take 12 (v := ?_) rfl (by kernel_rfl) (fun _ _ _ h => h) (by rfl) (by assumption) ?_ ?_
              rotate_left
              · (intro w9 hS9; (try dsimp only at hS9); go_simp; try with_reducible rfl)
              try simp only [Act.put, List.setIfInBounds_toArray, List.set_cons_zero, List.set_cons_succ]
              refine wpT_take 13 (v := ?_) rfl (by kernel_rfl) (fun _ _ _ h => h) (by rfl) (by assumption) ?_ ?_
              rotate_left
              · (intro w9 hS9; (try dsimp only at hS9); go_simp; try with_reducible rfl)
              try simp only [Act.put, List.setIfInBounds_toArray, List.set_cons_zero, List.set_cons_succ]
              refine wpT_last 14 rfl rfl (by kernel_rfl) (fun K hK => ?_)
              go_simp
              refine hK.out _ _ ?_
              clear hK K
              try simp only [Act.put, List.setIfInBounds_toArray, List.set_cons_zero, List.set_cons_succ]
              refine wpT_done (by kernel_rfl) ?_ _
              have HM2 := Lib.hid ((hM.store (k := k) rfl (by omega) H9.out).drew)
              clear c0 c1' f0 dz wt wpt hpt
              go_wp2_with fail
              go_roundw
              case rel => exact ⟨k + 1, _, by omega, by go_num, HM2.out⟩
              case measure => simp [intOf]; omega
            · have HE3 := Lib.hid (show k = N + 1 by omega)
              clear hk
              have HMH := Lib.hid hM
              have hyb : ∀ (i : Nat) (x : Int), ys[i]? = some x → -4611686018427387904 ≤ x ∧ x ≤ 4611686018427387904 := by
                intro j x hj
                have hjl := (List.getElem?_eq_some_iff.1 hj).1
                have hjN : j < N + 1 := by have := HMH.out.len; omega
                obtain ⟨h1, h2, h3, h4⟩ := HDN.out j hjN
                have ha2' := HA2.out
                rw [HMH.out.done.out j (by have := HE3.out; omega), List.getD_eq_getElem?_getD, List.getD_eq_getElem?_getD, h1, h2] at hj
                simp only [Option.getD_some] at hj
                cases hj
                exact mul_small h3 ⟨Int.ediv_nonneg (by omega) (by omega), Int.le_trans (Int.ediv_le_self _ (by omega)) (by omega)⟩
              have HR := Lib.hid (reduce_c wr (N := N + 1) hM.b1 hM.len hyb (by omega))
              clear hyb
              go_wp2_with fail
              refine HR.out.mono ?_
              rintro e w9 ⟨ok, zs, rfl, hz, hzl, hok, hb9⟩
              have HF : Hid (RetDen f N w (.returned (.tuple #[.slice (some ⟨w.heap.size + 1, 0, none⟩) (N + 1) (N + 1), .bool ok])) w9) := by
                refine ⟨ok, _, _, _, zs, rfl, hPb.trans ((HMH.out.below.trans hb9).mono (by omega)), fun h9 => ⟨ib_read hz hzl, rfl, (hok h9).bd, ?_⟩⟩
                obtain ⟨D, hD0, hDe⟩ := (hok h9).ex
                refine ⟨(a : Rat) / (D : Rat), ratdiv_pos (Rat.natCast_pos.2 (by omega)) (Rat.natCast_pos.2 hD0), fun j hj => ?_⟩
                obtain ⟨h1, h2, h3, h4⟩ := HDN.out j (by omega)
                have h5 := HMH.out.done.out j (by have := HE3.out; omega)
                rw [List.getD_eq_getElem?_getD, List.getD_eq_getElem?_getD, h1, h2] at h5
                simp only [Option.getD_some] at h5
                have h6 : zs[j]? = some (zs[j]'(by omega)) := List.getElem?_eq_getElem _
                have h7 := hDe j _ _ h5 h6
                rw [List.getD_eq_getElem?_getD, h6]
                exact den_fin (HDD.out j _ h2) hD0 h7
              clear hz hzl hok hb9
              go_wp2_with fail
              go_ret2
              exact HF.out
theorem dense_c (w : World) {f : FD} {m N : Nat} (h : f.In w) (ho : OkFD m f) (hm : m ≤ 34359738368) (hNm : N ≤ 1048575) :
    Calls Tryz.prog 42 #[.agg #[.slice f.ad f.n f.c, .bool f.k.neg, .slice f.k.a1 f.k.n1 f.k.c1, .slice f.k.a2 f.k.n2 f.k.c2], .int .i64 (N : Int)] w (RetDen f N w) := dense_aux w (Lib.hid rfl) h ho hm hNm
end Go.Proofs.YtledagemcknlcaaGreat
