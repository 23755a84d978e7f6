/- relucertlaw34.PhaseLong: the call returns true. -/
import Derived.Test.YtjobiobdpnhooaaDoorK10
set_option linter.all false
namespace Go.Proofs.YtjobiobdpnhooaaDoor
open Go.RowKit

theorem rep_mem {N i : Nat} {x e : ED} (h : (List.replicate N x)[i]? = some e) : e = x := by
  rw [List.getElem?_replicate] at h
  split at h
  · cases h; rfl
  · cases h
theorem long_v {a : RD} (h : a.Ok) (k : Int) (hk : k = 3 ∨ k = 4) : ED.V ⟨k, 0, a⟩ := ⟨by show (0 : Int) ≤ 0; omega, Or.inr ⟨hk, by show (0 : Int) < 256; omega, h⟩⟩
theorem long_tw {N : Nat} {a : RD} (m : List ED) (hm : ∀ e ∈ m, e.u = false) : ¬ Tw (List.replicate N ⟨3, 0, a⟩ ++ m) := by
  rintro ⟨i, j, x, y, hj, hi, hx, hy, h1, h2, h3⟩
  have h4 : ∀ e ∈ List.replicate N (⟨3, 0, a⟩ : ED) ++ m, e.u = false := fun e he => by
    rcases List.mem_append.1 he with h | h
    · rw [(List.mem_replicate.1 h).2]; rfl
    · exact hm e h
  have := h4 x (List.mem_of_getElem? hx)
  rw [h1] at this
  cases this
theorem long_path {N : Nat} {a : RD} (h : a.Ok) : pathE (List.replicate N ⟨3, 0, a⟩) 0 = if N ≤ 2048 then 0 else 8 := by
  have hA : AllV (List.replicate N ⟨3, 0, a⟩) 0 := fun i e he => by
    rw [rep_mem he]
    exact ⟨long_v h 3 (Or.inl rfl), fun h9 => by cases h9⟩
  have hT : ¬ Tw (List.replicate N (⟨3, 0, a⟩ : ED)) := by
    have := long_tw (N := N) (a := a) [] (fun e he => by cases he)
    rwa [List.append_nil] at this
  split
  · exact pathE_ok (by omega) (by omega) hA hT (by rw [List.length_replicate]; omega)
  · exact pathE_limit (by omega) (by omega) hA hT (by rw [List.length_replicate]; omega)
theorem long_ext {N : Nat} {a : RD} (h : a.Ok) : extE (List.replicate N ⟨3, 0, a⟩ ++ [⟨4, 0, a⟩]) = if N + 1 ≤ 2048 then 0 else 8 := by
  have hB : ¬ Bad (List.replicate N ⟨3, 0, a⟩ ++ [⟨4, 0, a⟩]) := by
    rintro ⟨i, e, he, h9⟩
    rcases List.mem_append.1 (List.mem_of_getElem? he) with h8 | h8
    · rw [(List.mem_replicate.1 h8).2] at h9; exact h9 (long_v h 3 (Or.inl rfl))
    · rw [List.mem_singleton.1 h8] at h9; exact h9 (long_v h 4 (Or.inr rfl))
  unfold extE
  rw [if_neg hB, if_neg (long_tw _ (fun e he => by rw [List.mem_singleton.1 he]; rfl)), List.length_append, List.length_replicate]
  rfl
set_option maxRecDepth 100000 in
set_option maxHeartbeats 3200000 in
theorem long_law (w : World) {m : Nat} {a : RD} (hm : m ≤ 255) (ha : a.In w) (hG : w.cell? ⟨0, 3, none⟩ = some (.int .i64 4)) (hz : 0 < w.heap.size) :
    Calls Tryd.prog 5 #[.int .u8 (m : Int), .agg #[.bool a.neg, .slice a.a1 a.n1 a.c1, .slice a.a2 a.n2 a.c2]] w (RetB true w) := by
  obtain ⟨i0, hi0, hz0, hz1, hz2⟩ := info_parts Tryd.infoED
  have HI := Lib.hid (And.intro hi0 (And.intro hz0 (And.intro hz1 hz2)))
  clear hi0 hz0 hz1 hz2
  have hP := Pro1.mk' w #[.bool a.neg, .slice a.a1 a.n1 a.c1, .slice a.a2 a.n2 a.c2] 34
  go_enter Tryd.func5, Tryd.ntmps5
  go_upto_region 1 with (fail)
  generalize w.alloc (.cells #[.bool a.neg, .slice a.a1 a.n1 a.c1, .slice a.a2 a.n2 a.c2] 34) = W at *
  have hpB := hP.b0
  have hPb := hP.below
  have HPS := Lib.hid hP.size
  have aW := ha.on hPb
  have hGW := (hPb.cell (p := ⟨0, 3, none⟩) hz).trans hG
  have hzW := Nat.lt_of_lt_of_le hz hPb.size
  clear hP hG hz ha
  go_wp2_with fail
  refine (awake_c W hGW hzW).mono ?_
  rintro e w1 ⟨rfl, hb1⟩
  have hw1 := hPb.trans (hb1.mono (by have := HPS.out; omega))
  have hB1 := hpB.on hb1
  have a1 := aW.on hb1
  have hQ := Pro1.mk' w1 #[.int .i64 0, .int .i64 0, .bool a.neg, .slice a.a1 a.n1 a.c1, .slice a.a2 a.n2 a.c2] 36
  have hE1 : EsR (w1.alloc (.cells #[.int .i64 0, .int .i64 0, .bool a.neg, .slice a.a1 a.n1 a.c1, .slice a.a2 a.n2 a.c2] 36)) (some ⟨w1.heap.size, 0, none⟩) 1 1 [⟨0, 0, a⟩] :=
    ⟨rfl, Nat.le_refl _, (fun i e he => by rw [List.mem_singleton.1 (List.mem_of_getElem? he)]; exact a1.on hQ.below), fun _ => ⟨w1.heap.size, 0, rfl, hQ.b0.lt, fun i e he => by
      rcases i with _ | i
      · cases he
        have hc := fun k => hQ.b0.cell k
        exact ⟨hc 0, hc 1, hc 2, hc 3, hc 4⟩
      · exact absurd (List.getElem?_eq_some_iff.1 he).1 (by show ¬ (i + 1 < 1); omega)⟩⟩
  have HLC := Lib.hid (large_c _ hE1 (by omega))
  have hbq := hQ.below
  clear hpB aW hb1 hGW hzW hQ hE1
  have k0 := hB1.cell 0
  have k1 := hB1.cell 1
  have k2 := hB1.cell 2
  simp at k0 k1 k2
  have kz := hB1.lt
  go_wp2_with fail
  refine HLC.out.mono ?_
  rintro e w2 ⟨rfl, hb2⟩
  have hb12 := hbq.trans (hb2.mono hbq.size)
  have hw2 := hw1.trans (hb12.mono hw1.size)
  clear HLC hb2 hbq
  by_cases hlg : LargeE [⟨0, 0, a⟩]
  · rw [decide_eq_true hlg]
    clear hlg
    go_wp2_with fail
    go_ret
    exact ⟨rfl, hw2⟩
  rw [decide_eq_false hlg]
  obtain ⟨_, h8⟩ := not_large hlg
  obtain ⟨h81, h82⟩ := h8 0 ⟨0, 0, a⟩ rfl
  have hF : FewC a := ⟨by have : a.n1 ≤ 8 := h81; omega, by have : a.n2 ≤ 8 := h82; omega⟩
  have HF := Lib.hid hF
  clear hlg h8 h81 h82 hF
  have hB2 := hB1.on hb12
  have a2 := a1.on hb12
  clear k0 k1 k2 kz hB1 a1 hb12
  have k0 := hB2.cell 0
  have k1 := hB2.cell 1
  have k2 := hB2.cell 2
  simp at k0 k1 k2
  have kz := hB2.lt
  go_wp2_with fail
  refine (fok_c w2 a a2 HF.out).mono ?_
  rintro e U ⟨rfl, hbU⟩
  have hwU := hw2.trans (hbU.mono hw2.size)
  by_cases hok : a.Ok
  rotate_left
  · rw [decide_eq_false hok]
    clear hok
    go_wp2_with fail
    go_ret
    exact ⟨rfl, hwU⟩
  rw [decide_eq_true hok]
  have HOK := Lib.hid hok
  have hBU := hB2.on hbU
  have aU := a2.on hbU
  obtain ⟨d, hd⟩ : ∃ d, d = m % 5 := ⟨_, rfl⟩
  have hd5 : d < 5 := by omega
  have t1 : Int.tmod (m : Int) 5 = (d : Int) := by rw [hd]; rfl
  have w1' : IntKind.u8.wrap (d : Int) = (d : Int) := IntWalk.u8_in _ (by omega)
  have w2' : IntKind.i64.wrap (d : Int) = (d : Int) := IntWalk.i64_in _ (by omega)
  clear hd hok k0 k1 k2 kz hB2 a2 hbU
  go_wp2_with fail
  go_loopw [5, 27] (fun s5 s27 wr => ∃ i ad c, i ≤ 2046 + d ∧ s27 = .int .i64 (i : Nat) ∧ s5 = .slice ad i c ∧ Row NotU wr U.heap.size 36 5 (.slice ad i c) i (ecells (List.replicate i ⟨3, 0, a⟩)) ∧ Below U.heap.size U wr) (fun _ i _ => 2046 + d - (intOf i).toNat)
  case atStart => exact ⟨0, none, 0, by omega, rfl, rfl, Row.nil _ _ _ _ _, Below.refl _ _⟩
  case round =>
    obtain ⟨i, ad, c, hi, rfl, rfl, hR, hb⟩ := hrel
    have hBr := hBU.on hb
    have k0 := hBr.cell 0
    have k1 := hBr.cell 1
    have k2 := hBr.cell 2
    simp at k0 k1 k2
    have kz := hBr.lt
    by_cases hlt : i < 2046 + d
    · have d1 : decide ((i : Int) < 2046 + (d : Int)) = true := decide_eq_true (by omega)
      have hal : Below wr.heap.size wr (wr.alloc (.cells #[.int .i64 3, .int .i64 0, .bool a.neg, .slice a.a1 a.n1 a.c1, .slice a.a2 a.n2 a.c2] 36)) := (Below.refl _ _).alloc (Nat.le_refl _) _
      have hRa := hR.on hal
      have HLD : Hid (ecells (List.replicate i (⟨3, 0, a⟩ : ED)) ++ [.int .i64 3, .int .i64 0, .bool a.neg, .slice a.a1 a.n1 a.c1, .slice a.a2 a.n2 a.c2] = ecells (List.replicate (i + 1) ⟨3, 0, a⟩)) := (by rw [List.replicate_succ', ecells_append]; rfl : ecells (List.replicate i (⟨3, 0, a⟩ : ED)) ++ [.int .i64 3, .int .i64 0, .bool a.neg, .slice a.a1 a.n1 a.c1, .slice a.a2 a.n2 a.c2] = ecells (List.replicate (i + 1) ⟨3, 0, a⟩))
      go_wp2_with (at_builtin; refine wpList_row _ rfl (.tmp 29) (.tmp 32) _ rfl U.heap.size 36 i0 (.agg #[.int .i64 0, .int .i64 0, .bool false, .slice none 0 0, .slice none 0 0]) 5 72 Tryd.underlying22 HI.out.1 HI.out.2.1 HI.out.2.2.1 HI.out.2.2.2 rfl (by omega) (.slice ad i c) i (ecells (List.replicate i ⟨3, 0, a⟩)) rfl hRa ⟨wr.heap.size, 0, none⟩ 1 1 [.int .i64 3, .int .i64 0, .bool a.neg, .slice a.a1 a.n1 a.c1, .slice a.a2 a.n2 a.c2] rfl rfl (cells_news wr #[.int .i64 3, .int .i64 0, .bool a.neg, .slice a.a1 a.n1 a.c1, .slice a.a2 a.n2 a.c2] _) (fun u hu => (ecells_mem (es := [⟨3, 0, a⟩]) hu).2) (by simp only [maxLen]; omega) (by omega) (by simp; exact Nat.le_succ_of_le hb.size) (by omega) ed_zero (fun u hu => (ecells_mem (es := [⟨3, 0, a⟩]) hu).1) ?_; intro v7 w8 hr8 hg8 ho8; obtain ⟨ad8, c8, rfl⟩ := hr8.shape; have hb8 : Below U.heap.size U w8 := (hb.trans (hal.mono hb.size)).trans (hRa.below hg8 (by simp; exact Nat.le_succ_of_le hb.size)))
      rw [HLD.out] at hr8
      go_roundw
      case rel => exact ⟨i + 1, _, _, by omega, by go_num, rfl, hr8, hb8⟩
      case measure => simp [intOf]; omega
    · have d1 : decide ((i : Int) < 2046 + (d : Int)) = false := decide_eq_false (by omega)
      have HID := Lib.hid (show i = 2046 + d by omega)
      have hi6 : 2046 ≤ i ∧ i ≤ 2050 := by omega
      have hE : EsR wr ad i c (List.replicate i ⟨3, 0, a⟩) := hR.es (fun j e he => by rw [rep_mem he]; exact aU.on hb)
      have HFE : Hid (∀ (j : Nat) (e : ED), (List.replicate i (⟨3, 0, a⟩ : ED))[j]? = some e → FewC e.c) := (fun j e he => by rw [rep_mem he]; exact HF.out : ∀ (j : Nat) (e : ED), (List.replicate i (⟨3, 0, a⟩ : ED))[j]? = some e → FewC e.c)
      have hwr := hwU.trans (hb.mono hwU.size)
      have ar := aU.on hb
      clear hR
      have hcs : 2048 < i ∨ i = 2048 ∨ i < 2048 := by omega
      rcases hcs with hcs | hcs | hcs
      · have HP1 : Hid (pathE (List.replicate i ⟨3, 0, a⟩) 0 = 8) := (by rw [long_path HOK.out, if_neg (by omega)] : pathE (List.replicate i ⟨3, 0, a⟩) 0 = 8)
        have HX1 : Hid (extE (List.replicate i ⟨3, 0, a⟩ ++ [⟨4, 0, a⟩]) = 8) := (by rw [long_ext HOK.out, if_neg (by omega)] : extE (List.replicate i ⟨3, 0, a⟩ ++ [⟨4, 0, a⟩]) = 8)
        have e1 : decide (2048 < i) = true := by simp; omega
        have e2 : decide ((2048 : Int) < (i : Int)) = true := by simp; omega
        have e3 : decide ((2048 : Int) ≤ (i : Int)) = true := by simp; omega
        have e4 : decide (2048 ≤ i) = true := by simp; omega
        have hi5 : i ≤ 1000000 := by omega
        clear hcs HID hi hlt
        go_wp2_with fail
        refine (ppath_c wr hE (by omega) HFE.out).mono ?_
        rintro e w5 ⟨a5, n5, c5, rfl, _, hb5⟩
        rw [HP1.out]
        have hB5 := hBr.on hb5
        have hw5 := hwr.trans (hb5.mono hwr.size)
        clear k0 k1 k2 kz hBr d1
        have k0 := hB5.cell 0
        have k1 := hB5.cell 1
        have k2 := hB5.cell 2
        simp at k0 k1 k2
        have kz := hB5.lt
        go_wp2_with fail
        refine (extend_c w5 (d := ⟨4, 0, a⟩) (hE.on hb5) hi5 (ar.on hb5) HFE.out HF.out).mono ?_
        rintro e w6 ⟨a6, n6, c6, rfl, _, hb6⟩
        rw [HX1.out]
        have hw6 := hw5.trans (hb6.mono hw5.size)
        go_wp2_with fail
        go_ret
        exact ⟨rfl, hw6⟩
      · have HP1 : Hid (pathE (List.replicate i ⟨3, 0, a⟩) 0 = 0) := (by rw [long_path HOK.out, if_pos (by omega)] : pathE (List.replicate i ⟨3, 0, a⟩) 0 = 0)
        have HX1 : Hid (extE (List.replicate i ⟨3, 0, a⟩ ++ [⟨4, 0, a⟩]) = 8) := (by rw [long_ext HOK.out, if_neg (by omega)] : extE (List.replicate i ⟨3, 0, a⟩ ++ [⟨4, 0, a⟩]) = 8)
        have e1 : decide (2048 < i) = false := by simp; omega
        have e2 : decide ((2048 : Int) < (i : Int)) = false := by simp; omega
        have e3 : decide ((2048 : Int) ≤ (i : Int)) = true := by simp; omega
        have e4 : decide (2048 ≤ i) = true := by simp; omega
        have hi5 : i ≤ 1000000 := by omega
        clear hcs HID hi hlt
        go_wp2_with fail
        refine (ppath_c wr hE (by omega) HFE.out).mono ?_
        rintro e w5 ⟨a5, n5, c5, rfl, _, hb5⟩
        rw [HP1.out]
        have hB5 := hBr.on hb5
        have hw5 := hwr.trans (hb5.mono hwr.size)
        clear k0 k1 k2 kz hBr d1
        have k0 := hB5.cell 0
        have k1 := hB5.cell 1
        have k2 := hB5.cell 2
        simp at k0 k1 k2
        have kz := hB5.lt
        go_wp2_with fail
        refine (extend_c w5 (d := ⟨4, 0, a⟩) (hE.on hb5) hi5 (ar.on hb5) HFE.out HF.out).mono ?_
        rintro e w6 ⟨a6, n6, c6, rfl, _, hb6⟩
        rw [HX1.out]
        have hw6 := hw5.trans (hb6.mono hw5.size)
        go_wp2_with fail
        go_ret
        exact ⟨rfl, hw6⟩
      · have HP1 : Hid (pathE (List.replicate i ⟨3, 0, a⟩) 0 = 0) := (by rw [long_path HOK.out, if_pos (by omega)] : pathE (List.replicate i ⟨3, 0, a⟩) 0 = 0)
        have HX1 : Hid (extE (List.replicate i ⟨3, 0, a⟩ ++ [⟨4, 0, a⟩]) = 0) := (by rw [long_ext HOK.out, if_pos (by omega)] : extE (List.replicate i ⟨3, 0, a⟩ ++ [⟨4, 0, a⟩]) = 0)
        have e1 : decide (2048 < i) = false := by simp; omega
        have e2 : decide ((2048 : Int) < (i : Int)) = false := by simp; omega
        have e3 : decide ((2048 : Int) ≤ (i : Int)) = false := by simp; omega
        have e4 : decide (2048 ≤ i) = false := by simp; omega
        have hi5 : i ≤ 1000000 := by omega
        clear hcs HID hi hlt
        go_wp2_with fail
        refine (ppath_c wr hE (by omega) HFE.out).mono ?_
        rintro e w5 ⟨a5, n5, c5, rfl, _, hb5⟩
        rw [HP1.out]
        have hB5 := hBr.on hb5
        have hw5 := hwr.trans (hb5.mono hwr.size)
        clear k0 k1 k2 kz hBr d1
        have k0 := hB5.cell 0
        have k1 := hB5.cell 1
        have k2 := hB5.cell 2
        simp at k0 k1 k2
        have kz := hB5.lt
        go_wp2_with fail
        refine (extend_c w5 (d := ⟨4, 0, a⟩) (hE.on hb5) hi5 (ar.on hb5) HFE.out HF.out).mono ?_
        rintro e w6 ⟨a6, n6, c6, rfl, _, hb6⟩
        rw [HX1.out]
        have hw6 := hw5.trans (hb6.mono hw5.size)
        go_wp2_with fail
        go_ret
        exact ⟨rfl, hw6⟩
end Go.Proofs.YtjobiobdpnhooaaDoor
