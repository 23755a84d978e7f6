/- relucertref34.Extend, Same, SamePath: what each call returns. relucertlaw34.PhaseExtend: the call returns true. -/
import Derived.Test.YtjobiobdpnhooaaDoorK9
import Derived.Test.YtjobiobdpnhooaaDoorK10
set_option linter.all false
namespace Go.Proofs.YtjobiobdpnhooaaDoor
open Go.RowKit

theorem blk_flat {w : World} {B : Nat} {t : TypeId} {cs : Array Value} (h : Blk w B t cs) : ∀ j u, cs.toList[j]? = some u → w.cell? ((⟨B, 0, none⟩ : Addr).add j) = some u := fun j u hu => by
  rw [addr_plus, Nat.zero_add, h.cell]
  simpa using hu
set_option maxRecDepth 100000 in
set_option maxHeartbeats 6400000 in
theorem fextend_c (w : World) {ad : Option Addr} {n c : Nat} {es : List ED} {d : ED} (h : EsR w ad n c es) (hn : n ≤ 1000000) (hd : d.In w) (hf : ∀ (i : Nat) (e : ED), es[i]? = some e → FewC e.c) (hfd : FewC d.c) :
    Calls Tryd.prog 12 #[.slice ad n c, .agg #[.int .i64 d.k, .int .i64 d.i, .bool d.c.neg, .slice d.c.a1 d.c.n1 d.c.c1, .slice d.c.a2 d.c.n2 d.c.c2]] w (RetExt (es ++ [d]) w) := by
  have HL := Lib.hid h.len
  have HFE : Hid (∀ (i : Nat) (e : ED), (es ++ [d])[i]? = some e → FewC e.c) := app_few hf hfd
  clear hf hfd
  obtain ⟨i0, hi0, hz0, hz1, hz2⟩ := info_parts Tryd.infoED
  have HI := Lib.hid (And.intro hi0 (And.intro hz0 (And.intro hz1 hz2)))
  clear hi0 hz0 hz1 hz2
  have hP := Pro1.mk' w #[.int .i64 d.k, .int .i64 d.i, .bool d.c.neg, .slice d.c.a1 d.c.n1 d.c.c1, .slice d.c.a2 d.c.n2 d.c.c2] 36
  go_enter Tryd.func12, Tryd.ntmps12
  go_upto_region 1 with (fail)
  generalize w.alloc (.cells #[.int .i64 d.k, .int .i64 d.i, .bool d.c.neg, .slice d.c.a1 d.c.n1 d.c.c1, .slice d.c.a2 d.c.n2 d.c.c2] 36) = W at *
  have hpB := hP.b0
  have hPb := hP.below
  have HPS := Lib.hid hP.size
  have k0 := hpB.cell 0
  have k1 := hpB.cell 1
  have k2 := hpB.cell 2
  have k3 := hpB.cell 3
  have k4 := hpB.cell 4
  simp at k0 k1 k2 k3 k4
  have kz := hpB.lt
  clear hP
  have hU0 : Below W.heap.size W W.drew := Below.drew (Below.refl _ _)
  go_cut [6] (fun s6 wx => ECut W n es d s6 wx)
  case first =>
    refine wp_region_T 6 (fun w' => w'.cell? ⟨w.heap.size, 0, none⟩ = some (.int .i64 d.k) ∧ w'.cell? ⟨w.heap.size, 1, none⟩ = some (.int .i64 d.i) ∧ w'.cell? ⟨w.heap.size, 2, none⟩ = some (.bool d.c.neg) ∧ w'.cell? ⟨w.heap.size, 3, none⟩ = some (.slice d.c.a1 d.c.n1 d.c.c1) ∧ w'.cell? ⟨w.heap.size, 4, none⟩ = some (.slice d.c.a2 d.c.n2 d.c.c2)) (by kernel_rfl) (by (try dsimp only); go_keep) (fun hHeld => ?_)
    refine wpT_take 1 (v := ?_) rfl (by kernel_rfl) (fun _ _ _ h => h) (by rfl) (by assumption) ?_ ?_
    rotate_left
    · (intro w9 hS9; (try dsimp only at hS9); go_simp; try with_reducible rfl)
    try simp only [Act.put, List.setIfInBounds_toArray, List.set_cons_zero, List.set_cons_succ]
    refine wpT_take 3 (v := ?_) rfl (by kernel_rfl) (fun _ _ _ h => h) (by rfl) (by assumption) ?_ ?_
    rotate_left
    · (intro w9 hS9; (try dsimp only at hS9); go_simp; try with_reducible rfl)
    try simp only [Act.put, List.setIfInBounds_toArray, List.set_cons_zero, List.set_cons_succ]
    refine wpT_two 0 4 rfl rfl (by kernel_rfl) (fun KK hKK => ?_) (fun KK hKK => ?_)
    · go_simp
      have hOld := hHeld
      clear hHeld
      refine hKK.out _ _ ?_ (fun hHeld => ?_)
      · (try dsimp only); go_keep
      clear hOld hKK KK
      try simp only [Act.put, List.setIfInBounds_toArray, List.set_cons_zero, List.set_cons_succ]
      have hA1 : Below W.drew.heap.size W.drew (W.drew.alloc (.cells #[] 36)) := (Below.refl _ _).alloc (Nat.le_refl _) _
      have hb1 : Below W.heap.size W (W.drew.alloc (.cells #[] 36)) := hU0.trans (hA1.mono hU0.size)
      obtain ⟨hc1, hf1⟩ := bcell hb1
      have hE9 : W.drew.heap.size = W.heap.size := by simp
      have hR0 : Row NotU (W.drew.alloc (.cells #[] 36)) (W.heap.size) 36 5 (.slice (some ⟨W.heap.size, 0, none⟩) 0 0) 0 [] := by rw [← hE9]; exact Row.empty NotU 5 rfl
      have hRW : W.heap.size ≤ W.heap.size := by omega
      clear hE9
      refine wpT_two 2 4 rfl rfl (by kernel_rfl) (fun KK hKK => ?_) (fun KK hKK => ?_)
      · have HRF : Hid (0 < n → ∃ ad', ad = some ad' ∧ ∀ j u, (ecells es)[j]? = some u → ((W.drew.alloc (.cells #[] 36)) : World).cell? (ad'.add j) = some u) := (h.on (hPb.trans (hb1.mono (by have := HPS.out; omega)))).flat
        refine step_row_any rfl (.tmp 8) (.tmp 9) _ rfl (W.heap.size) 36 i0 (.agg #[.int .i64 0, .int .i64 0, .bool false, .slice none 0 0, .slice none 0 0]) 5 72 Tryd.underlying22 HI.out.1 HI.out.2.1 HI.out.2.2.1 HI.out.2.2.2 rfl (by omega) (.slice (some ⟨W.heap.size, 0, none⟩) 0 0) 0 [] rfl hR0 ad n c (ecells es) rfl (by rw [ecells_len, HL.out]) HRF.out (fun u hu => (ecells_mem hu).2) (by simp only [maxLen]; omega) (by omega) (Nat.le_of_lt (hR0.own.lt (W.heap.size) rfl).2) ed_zero (fun u hu => (ecells_mem hu).1) ?_; intro v7 w7 hr7 hg7 ho7; rw [Nat.zero_add, List.nil_append] at hr7; obtain ⟨ad7, c7, rfl⟩ := hr7.shape
        have hb7 : Below W.heap.size W w7 := hb1.grown hg7 hb1.size (fun k hk => by simp [Value.ownBlock] at hk; omega)
        obtain ⟨hc7, hf7⟩ := bcell hb7
        have hR7 := hr7.base_le (b := W.heap.size) hRW
        have hOld := hHeld
        clear hHeld
        refine hKK.out _ _ ?_ (fun hHeld => ?_)
        · (try dsimp only); go_keep
        clear hOld hKK KK
        try simp only [Act.put, List.setIfInBounds_toArray, List.set_cons_zero, List.set_cons_succ]
        refine wpT_only 4 rfl (by kernel_rfl) (fun KK hKK => ?_)
        go_simp
        have hOld := hHeld
        clear hHeld
        refine hKK.out _ _ ?_ (fun hHeld => ?_)
        · (try dsimp only); go_keep
        clear hOld hKK KK
        try simp only [Act.put, List.setIfInBounds_toArray, List.set_cons_zero, List.set_cons_succ]
        have hA4 : Below w7.heap.size w7 (w7.alloc (.cells #[.int .i64 d.k, .int .i64 d.i, .bool d.c.neg, .slice d.c.a1 d.c.n1 d.c.c1, .slice d.c.a2 d.c.n2 d.c.c2] 36)) := (Below.refl _ _).alloc (Nat.le_refl _) _
        have hb4 : Below W.heap.size W (w7.alloc (.cells #[.int .i64 d.k, .int .i64 d.i, .bool d.c.neg, .slice d.c.a1 d.c.n1 d.c.c1, .slice d.c.a2 d.c.n2 d.c.c2] 36)) := hb7.trans (hA4.mono hb7.size)
        obtain ⟨hc4, hf4⟩ := bcell hb4
        have hE8 : w7.heap.size = w7.heap.size := by simp
        have hLit : Blk (w7.alloc (.cells #[.int .i64 d.k, .int .i64 d.i, .bool d.c.neg, .slice d.c.a1 d.c.n1 d.c.c1, .slice d.c.a2 d.c.n2 d.c.c2] 36)) (w7.heap.size) 36 #[.int .i64 d.k, .int .i64 d.i, .bool d.c.neg, .slice d.c.a1 d.c.n1 d.c.c1, .slice d.c.a2 d.c.n2 d.c.c2] := by rw [← hE8]; exact Blk.new _ _ _
        clear hE8
        have hR7 := hR7.on hA4
        refine wpT_only 5 rfl (by kernel_rfl) (fun KK hKK => ?_)
        refine step_row _ rfl (.tmp 10) (.tmp 12) _ rfl W.heap.size 36 i0 (.agg #[.int .i64 0, .int .i64 0, .bool false, .slice none 0 0, .slice none 0 0]) 5 72 Tryd.underlying22 HI.out.1 HI.out.2.1 HI.out.2.2.1 HI.out.2.2.2 rfl (by omega) (.slice ad7 n c7) n (ecells es) rfl hR7 ⟨w7.heap.size, 0, none⟩ 1 1 [.int .i64 d.k, .int .i64 d.i, .bool d.c.neg, .slice d.c.a1 d.c.n1 d.c.c1, .slice d.c.a2 d.c.n2 d.c.c2] rfl rfl (blk_flat hLit) (fun u hu => (ecells_mem (es := [d]) hu).2) (by simp only [maxLen]; omega) (by omega) hb4.size (by omega) ed_zero (fun u hu => (ecells_mem (es := [d]) hu).1) ?_; intro v8 w8 hr8 hg8 ho8; obtain ⟨ad8, c8, rfl⟩ := hr8.shape
        have hb8 : Below W.heap.size W w8 := hb4.trans (hR7.below hg8 hb4.size)
        obtain ⟨hc8, hf8⟩ := bcell hb8
        have hOld := hHeld
        clear hHeld
        refine hKK.out _ _ ?_ (fun hHeld => ?_)
        · (try dsimp only); go_keep
        clear hOld hKK KK
        try simp only [Act.put, List.setIfInBounds_toArray, List.set_cons_zero, List.set_cons_succ]
        refine wpT_last 6 rfl rfl (by kernel_rfl) (fun KK hKK => ?_)
        go_simp
        refine hKK.out _ _ ?_
        clear hKK KK
        try simp only [Act.put, List.setIfInBounds_toArray, List.set_cons_zero, List.set_cons_succ]
        refine wpT_done (by kernel_rfl) ?_ _
        go_wp2_with fail
        go_meet
        exact ⟨_, _, _, rfl, hr8, hb8, rfl⟩
      · go_simp
        have hOld := hHeld
        clear hHeld
        refine hKK.out _ _ ?_ (fun hHeld => ?_)
        · (try dsimp only); go_keep
        clear hOld hKK KK
        try simp only [Act.put, List.setIfInBounds_toArray, List.set_cons_zero, List.set_cons_succ]
        have hA4 : Below (W.drew.alloc (.cells #[] 36)).heap.size (W.drew.alloc (.cells #[] 36)) ((W.drew.alloc (.cells #[] 36)).alloc (.cells #[.int .i64 d.k, .int .i64 d.i, .bool d.c.neg, .slice d.c.a1 d.c.n1 d.c.c1, .slice d.c.a2 d.c.n2 d.c.c2] 36)) := (Below.refl _ _).alloc (Nat.le_refl _) _
        have hb4 : Below W.heap.size W ((W.drew.alloc (.cells #[] 36)).alloc (.cells #[.int .i64 d.k, .int .i64 d.i, .bool d.c.neg, .slice d.c.a1 d.c.n1 d.c.c1, .slice d.c.a2 d.c.n2 d.c.c2] 36)) := hb1.trans (hA4.mono hb1.size)
        obtain ⟨hc4, hf4⟩ := bcell hb4
        have hE8 : (W.drew.alloc (.cells #[] 36)).heap.size = W.heap.size + 1 := by simp
        have hLit : Blk ((W.drew.alloc (.cells #[] 36)).alloc (.cells #[.int .i64 d.k, .int .i64 d.i, .bool d.c.neg, .slice d.c.a1 d.c.n1 d.c.c1, .slice d.c.a2 d.c.n2 d.c.c2] 36)) (W.heap.size + 1) 36 #[.int .i64 d.k, .int .i64 d.i, .bool d.c.neg, .slice d.c.a1 d.c.n1 d.c.c1, .slice d.c.a2 d.c.n2 d.c.c2] := by rw [← hE8]; exact Blk.new _ _ _
        clear hE8
        have hR0 := hR0.on hA4
        have hne : (W.heap.size + 1 : Nat) ≠ W.heap.size := by omega
        refine wpT_only 2 rfl (by kernel_rfl) (fun KK hKK => ?_)
        have HRF : Hid (0 < n → ∃ ad', ad = some ad' ∧ ∀ j u, (ecells es)[j]? = some u → (((W.drew.alloc (.cells #[] 36)).alloc (.cells #[.int .i64 d.k, .int .i64 d.i, .bool d.c.neg, .slice d.c.a1 d.c.n1 d.c.c1, .slice d.c.a2 d.c.n2 d.c.c2] 36)) : World).cell? (ad'.add j) = some u) := (h.on (hPb.trans (hb4.mono (by have := HPS.out; omega)))).flat
        refine step_row_any rfl (.tmp 8) (.tmp 9) _ rfl (W.heap.size) 36 i0 (.agg #[.int .i64 0, .int .i64 0, .bool false, .slice none 0 0, .slice none 0 0]) 5 72 Tryd.underlying22 HI.out.1 HI.out.2.1 HI.out.2.2.1 HI.out.2.2.2 rfl (by omega) (.slice (some ⟨W.heap.size, 0, none⟩) 0 0) 0 [] rfl hR0 ad n c (ecells es) rfl (by rw [ecells_len, HL.out]) HRF.out (fun u hu => (ecells_mem hu).2) (by simp only [maxLen]; omega) (by omega) (Nat.le_of_lt (hR0.own.lt (W.heap.size) rfl).2) ed_zero (fun u hu => (ecells_mem hu).1) ?_; intro v7 w7 hr7 hg7 ho7; rw [Nat.zero_add, List.nil_append] at hr7; obtain ⟨ad7, c7, rfl⟩ := hr7.shape
        have hb7 : Below W.heap.size W w7 := hb4.grown hg7 hb4.size (fun k hk => by simp [Value.ownBlock] at hk; omega)
        obtain ⟨hc7, hf7⟩ := bcell hb7
        have hR7 := hr7.base_le (b := W.heap.size) hRW
        have hLit7 : Blk w7 (W.heap.size + 1) 36 #[.int .i64 d.k, .int .i64 d.i, .bool d.c.neg, .slice d.c.a1 d.c.n1 d.c.c1, .slice d.c.a2 d.c.n2 d.c.c2] := (hg7.block _ hLit.lt (fun h9 => hne (by simpa [Value.ownBlock] using h9))).trans hLit
        have hOld := hHeld
        clear hHeld
        refine hKK.out _ _ ?_ (fun hHeld => ?_)
        · (try dsimp only); go_keep
        clear hOld hKK KK
        try simp only [Act.put, List.setIfInBounds_toArray, List.set_cons_zero, List.set_cons_succ]
        refine wpT_only 5 rfl (by kernel_rfl) (fun KK hKK => ?_)
        refine step_row _ rfl (.tmp 10) (.tmp 12) _ rfl W.heap.size 36 i0 (.agg #[.int .i64 0, .int .i64 0, .bool false, .slice none 0 0, .slice none 0 0]) 5 72 Tryd.underlying22 HI.out.1 HI.out.2.1 HI.out.2.2.1 HI.out.2.2.2 rfl (by omega) (.slice ad7 n c7) n (ecells es) rfl hR7 ⟨W.heap.size + 1, 0, none⟩ 1 1 [.int .i64 d.k, .int .i64 d.i, .bool d.c.neg, .slice d.c.a1 d.c.n1 d.c.c1, .slice d.c.a2 d.c.n2 d.c.c2] rfl rfl (blk_flat hLit7) (fun u hu => (ecells_mem (es := [d]) hu).2) (by simp only [maxLen]; omega) (by omega) hb7.size (by omega) ed_zero (fun u hu => (ecells_mem (es := [d]) hu).1) ?_; intro v8 w8 hr8 hg8 ho8; obtain ⟨ad8, c8, rfl⟩ := hr8.shape
        have hb8 : Below W.heap.size W w8 := hb7.trans (hR7.below hg8 hb7.size)
        obtain ⟨hc8, hf8⟩ := bcell hb8
        have hOld := hHeld
        clear hHeld
        refine hKK.out _ _ ?_ (fun hHeld => ?_)
        · (try dsimp only); go_keep
        clear hOld hKK KK
        try simp only [Act.put, List.setIfInBounds_toArray, List.set_cons_zero, List.set_cons_succ]
        refine wpT_last 6 rfl rfl (by kernel_rfl) (fun KK hKK => ?_)
        go_simp
        refine hKK.out _ _ ?_
        clear hKK KK
        try simp only [Act.put, List.setIfInBounds_toArray, List.set_cons_zero, List.set_cons_succ]
        refine wpT_done (by kernel_rfl) ?_ _
        go_wp2_with fail
        go_meet
        exact ⟨_, _, _, rfl, hr8, hb8, rfl⟩
    · go_simp
      have hOld := hHeld
      clear hHeld
      refine hKK.out _ _ ?_ (fun hHeld => ?_)
      · (try dsimp only); go_keep
      clear hOld hKK KK
      try simp only [Act.put, List.setIfInBounds_toArray, List.set_cons_zero, List.set_cons_succ]
      have hA4 : Below W.drew.heap.size W.drew (W.drew.alloc (.cells #[.int .i64 d.k, .int .i64 d.i, .bool d.c.neg, .slice d.c.a1 d.c.n1 d.c.c1, .slice d.c.a2 d.c.n2 d.c.c2] 36)) := (Below.refl _ _).alloc (Nat.le_refl _) _
      have hb4 : Below W.heap.size W (W.drew.alloc (.cells #[.int .i64 d.k, .int .i64 d.i, .bool d.c.neg, .slice d.c.a1 d.c.n1 d.c.c1, .slice d.c.a2 d.c.n2 d.c.c2] 36)) := hU0.trans (hA4.mono hU0.size)
      obtain ⟨hc4, hf4⟩ := bcell hb4
      have hE8 : W.drew.heap.size = W.heap.size := by simp
      have hLit : Blk (W.drew.alloc (.cells #[.int .i64 d.k, .int .i64 d.i, .bool d.c.neg, .slice d.c.a1 d.c.n1 d.c.c1, .slice d.c.a2 d.c.n2 d.c.c2] 36)) (W.heap.size) 36 #[.int .i64 d.k, .int .i64 d.i, .bool d.c.neg, .slice d.c.a1 d.c.n1 d.c.c1, .slice d.c.a2 d.c.n2 d.c.c2] := by rw [← hE8]; exact Blk.new _ _ _
      clear hE8
      refine wpT_only 0 rfl (by kernel_rfl) (fun KK hKK => ?_)
      go_simp
      have hOld := hHeld
      clear hHeld
      refine hKK.out _ _ ?_ (fun hHeld => ?_)
      · (try dsimp only); go_keep
      clear hOld hKK KK
      try simp only [Act.put, List.setIfInBounds_toArray, List.set_cons_zero, List.set_cons_succ]
      have hA1 : Below (W.drew.alloc (.cells #[.int .i64 d.k, .int .i64 d.i, .bool d.c.neg, .slice d.c.a1 d.c.n1 d.c.c1, .slice d.c.a2 d.c.n2 d.c.c2] 36)).heap.size (W.drew.alloc (.cells #[.int .i64 d.k, .int .i64 d.i, .bool d.c.neg, .slice d.c.a1 d.c.n1 d.c.c1, .slice d.c.a2 d.c.n2 d.c.c2] 36)) ((W.drew.alloc (.cells #[.int .i64 d.k, .int .i64 d.i, .bool d.c.neg, .slice d.c.a1 d.c.n1 d.c.c1, .slice d.c.a2 d.c.n2 d.c.c2] 36)).alloc (.cells #[] 36)) := (Below.refl _ _).alloc (Nat.le_refl _) _
      have hb1 : Below W.heap.size W ((W.drew.alloc (.cells #[.int .i64 d.k, .int .i64 d.i, .bool d.c.neg, .slice d.c.a1 d.c.n1 d.c.c1, .slice d.c.a2 d.c.n2 d.c.c2] 36)).alloc (.cells #[] 36)) := hb4.trans (hA1.mono hb4.size)
      obtain ⟨hc1, hf1⟩ := bcell hb1
      have hE9 : (W.drew.alloc (.cells #[.int .i64 d.k, .int .i64 d.i, .bool d.c.neg, .slice d.c.a1 d.c.n1 d.c.c1, .slice d.c.a2 d.c.n2 d.c.c2] 36)).heap.size = W.heap.size + 1 := by simp
      have hR0 : Row NotU ((W.drew.alloc (.cells #[.int .i64 d.k, .int .i64 d.i, .bool d.c.neg, .slice d.c.a1 d.c.n1 d.c.c1, .slice d.c.a2 d.c.n2 d.c.c2] 36)).alloc (.cells #[] 36)) (W.heap.size + 1) 36 5 (.slice (some ⟨W.heap.size + 1, 0, none⟩) 0 0) 0 [] := by rw [← hE9]; exact Row.empty NotU 5 rfl
      have hRW : W.heap.size ≤ W.heap.size + 1 := by omega
      clear hE9
      have hLit := hLit.on hA1
      have hne : (W.heap.size : Nat) ≠ W.heap.size + 1 := by omega
      refine wpT_only 2 rfl (by kernel_rfl) (fun KK hKK => ?_)
      have HRF : Hid (0 < n → ∃ ad', ad = some ad' ∧ ∀ j u, (ecells es)[j]? = some u → (((W.drew.alloc (.cells #[.int .i64 d.k, .int .i64 d.i, .bool d.c.neg, .slice d.c.a1 d.c.n1 d.c.c1, .slice d.c.a2 d.c.n2 d.c.c2] 36)).alloc (.cells #[] 36)) : World).cell? (ad'.add j) = some u) := (h.on (hPb.trans (hb1.mono (by have := HPS.out; omega)))).flat
      refine step_row_any rfl (.tmp 8) (.tmp 9) _ rfl (W.heap.size + 1) 36 i0 (.agg #[.int .i64 0, .int .i64 0, .bool false, .slice none 0 0, .slice none 0 0]) 5 72 Tryd.underlying22 HI.out.1 HI.out.2.1 HI.out.2.2.1 HI.out.2.2.2 rfl (by omega) (.slice (some ⟨W.heap.size + 1, 0, none⟩) 0 0) 0 [] rfl hR0 ad n c (ecells es) rfl (by rw [ecells_len, HL.out]) HRF.out (fun u hu => (ecells_mem hu).2) (by simp only [maxLen]; omega) (by omega) (Nat.le_of_lt (hR0.own.lt (W.heap.size + 1) rfl).2) ed_zero (fun u hu => (ecells_mem hu).1) ?_; intro v7 w7 hr7 hg7 ho7; rw [Nat.zero_add, List.nil_append] at hr7; obtain ⟨ad7, c7, rfl⟩ := hr7.shape
      have hb7 : Below W.heap.size W w7 := hb1.grown hg7 hb1.size (fun k hk => by simp [Value.ownBlock] at hk; omega)
      obtain ⟨hc7, hf7⟩ := bcell hb7
      have hR7 := hr7.base_le (b := W.heap.size) hRW
      have hLit7 : Blk w7 (W.heap.size) 36 #[.int .i64 d.k, .int .i64 d.i, .bool d.c.neg, .slice d.c.a1 d.c.n1 d.c.c1, .slice d.c.a2 d.c.n2 d.c.c2] := (hg7.block _ hLit.lt (fun h9 => hne (by simpa [Value.ownBlock] using h9))).trans hLit
      have hOld := hHeld
      clear hHeld
      refine hKK.out _ _ ?_ (fun hHeld => ?_)
      · (try dsimp only); go_keep
      clear hOld hKK KK
      try simp only [Act.put, List.setIfInBounds_toArray, List.set_cons_zero, List.set_cons_succ]
      refine wpT_only 5 rfl (by kernel_rfl) (fun KK hKK => ?_)
      refine step_row _ rfl (.tmp 10) (.tmp 12) _ rfl W.heap.size 36 i0 (.agg #[.int .i64 0, .int .i64 0, .bool false, .slice none 0 0, .slice none 0 0]) 5 72 Tryd.underlying22 HI.out.1 HI.out.2.1 HI.out.2.2.1 HI.out.2.2.2 rfl (by omega) (.slice ad7 n c7) n (ecells es) rfl hR7 ⟨W.heap.size, 0, none⟩ 1 1 [.int .i64 d.k, .int .i64 d.i, .bool d.c.neg, .slice d.c.a1 d.c.n1 d.c.c1, .slice d.c.a2 d.c.n2 d.c.c2] rfl rfl (blk_flat hLit7) (fun u hu => (ecells_mem (es := [d]) hu).2) (by simp only [maxLen]; omega) (by omega) hb7.size (by omega) ed_zero (fun u hu => (ecells_mem (es := [d]) hu).1) ?_; intro v8 w8 hr8 hg8 ho8; obtain ⟨ad8, c8, rfl⟩ := hr8.shape
      have hb8 : Below W.heap.size W w8 := hb7.trans (hR7.below hg8 hb7.size)
      obtain ⟨hc8, hf8⟩ := bcell hb8
      have hOld := hHeld
      clear hHeld
      refine hKK.out _ _ ?_ (fun hHeld => ?_)
      · (try dsimp only); go_keep
      clear hOld hKK KK
      try simp only [Act.put, List.setIfInBounds_toArray, List.set_cons_zero, List.set_cons_succ]
      refine wpT_last 6 rfl rfl (by kernel_rfl) (fun KK hKK => ?_)
      go_simp
      refine hKK.out _ _ ?_
      clear hKK KK
      try simp only [Act.put, List.setIfInBounds_toArray, List.set_cons_zero, List.set_cons_succ]
      refine wpT_done (by kernel_rfl) ?_ _
      go_wp2_with fail
      go_meet
      exact ⟨_, _, _, rfl, hr8, hb8, rfl⟩
  case rest =>
    obtain ⟨ad6, c6, U, rfl, hr6, hbU, rfl⟩ := hcut
    have hwU := hPb.trans (hbU.mono (by have := HPS.out; omega))
    have hr6' : Row NotU U W.heap.size 36 5 (.slice ad6 (n + 1) c6) (n + 1) (ecells (es ++ [d])) := by rw [ecells_append]; exact hr6
    have hE : EsR U ad6 (n + 1) c6 (es ++ [d]) := hr6'.es (app_in (fun i e he => (h.ok i e he).on hwU) (hd.on hwU))
    have HLE : Hid ((es ++ [d]).length = n + 1) := hE.len
    clear k0 k1 k2 k3 k4 kz hr6 hr6' hpB hU0
    obtain ⟨m, hm⟩ : ∃ m, m = n + 1 := ⟨_, rfl⟩
    rw [← hm] at hE HLE ⊢
    have hm1 : m ≤ 1048576 := by omega
    have HM := Lib.hid hm
    clear hm
    go_wp2_with fail
    go_loopw [7] (fun s7 wr => ∃ i, i ≤ m ∧ s7 = .int .i64 (i : Nat) ∧ Hid (∀ (j : Nat) (e : ED), j < i → (es ++ [d])[j]? = some e → e.V) ∧ Below U.heap.size U wr) (fun i _ => m - (intOf i).toNat)
    case atStart => exact ⟨0, by omega, rfl, (fun j e hj => by omega : ∀ (j : Nat) (e : ED), j < 0 → (es ++ [d])[j]? = some e → e.V), Below.refl _ _⟩
    case round =>
      obtain ⟨i, hi, rfl, HA, hb⟩ := hrel
      have hwr := hwU.trans (hb.mono hwU.size)
      by_cases hlt : i < m
      · obtain ⟨b, o, e, rfl, hbl, HE, he, c0, c1, c2, c3, c4⟩ := (hE.on hb).at_ (i := i) hlt
        have lo : decide ((i : Int) < 0) = false := decide_eq_false (by omega)
        have hi' : decide ((m : Int) ≤ (i : Int)) = false := decide_eq_false (by omega)
        go_wp2_with fail
        refine (fvalid34_c wr e he (HFE.out i e HE.out)).mono ?_
        rintro e' V ⟨rfl, hbV⟩
        have hwV := hwr.trans (hbV.mono hwr.size)
        rcases hve : decide e.V with _ | _
        · have HNV := Lib.hid (of_decide_eq_false hve)
          clear hve
          have HEE : Hid (extE (es ++ [d]) = 1) := (by unfold extE; rw [if_pos ⟨i, e, HE.out, HNV.out⟩] : extE (es ++ [d]) = 1)
          have HF : Hid (RetExt (es ++ [d]) w (.returned (.tuple #[.slice none 0 0, .int .i64 1])) V) := ext_err HEE.out (by omega) hwV
          go_wp2_with fail
          go_ret2
          exact HF.out
        · have HA2 : Hid (∀ (j : Nat) (e : ED), j < i + 1 → (es ++ [d])[j]? = some e → e.V) := (fun j e' hj he' => by
            rcases Nat.lt_or_ge j i with h9 | h9
            · exact HA.out j e' h9 he'
            · obtain rfl : j = i := by omega
              rw [HE.out] at he'; cases he'
              exact of_decide_eq_true hve : ∀ (j : Nat) (e : ED), j < i + 1 → (es ++ [d])[j]? = some e → e.V)
          clear hve
          have hb9 := hb.trans (hbV.mono hb.size)
          go_wp2_with fail
          go_roundw
          case rel => exact ⟨i + 1, by omega, by go_num, HA2, hb9⟩
          case measure => simp [intOf]; omega
      · have HNB : Hid (¬ Bad (es ++ [d])) := (fun ⟨j, e, he, h9⟩ => h9 (HA.out j e (by have := (List.getElem?_eq_some_iff.1 he).1; have := HLE.out; omega) he) : ¬ Bad (es ++ [d]))
        have HNE := Lib.hid (show i = m by omega)
        have hEr := hE.on hb
        clear HA
        go_wp2_with fail
        refine (ftwice_c wr hEr hm1).mono ?_
        rintro e' X ⟨rfl, hbX⟩
        have hwX := hwr.trans (hbX.mono hwr.size)
        have hEX := hEr.on hbX
        by_cases htw : Tw (es ++ [d])
        · rw [decide_eq_true htw]
          have HT := Lib.hid htw
          clear htw
          have HEE : Hid (extE (es ++ [d]) = 9) := (by unfold extE; rw [if_neg HNB.out, if_pos HT.out] : extE (es ++ [d]) = 9)
          have HF : Hid (RetExt (es ++ [d]) w (.returned (.tuple #[.slice none 0 0, .int .i64 9])) X) := ext_err HEE.out (by omega) hwX
          go_wp2_with fail
          go_ret2
          exact HF.out
        rw [decide_eq_false htw]
        have HT := Lib.hid htw
        clear htw
        by_cases h2048 : 2048 < m
        · have d1 : decide (2048 < m) = true := decide_eq_true h2048
          have d2 : decide ((2048 : Int) < (m : Int)) = true := decide_eq_true (by omega)
          have HEE : Hid (extE (es ++ [d]) = 8) := (by unfold extE; rw [if_neg HNB.out, if_neg HT.out, if_neg (by have := HLE.out; omega)] : extE (es ++ [d]) = 8)
          have HF : Hid (RetExt (es ++ [d]) w (.returned (.tuple #[.slice none 0 0, .int .i64 8])) X) := ext_err HEE.out (by omega) hwX
          go_wp2_with fail
          go_ret2
          exact HF.out
        have d1 : decide (2048 < m) = false := decide_eq_false h2048
        have d2 : decide ((2048 : Int) < (m : Int)) = false := decide_eq_false (by omega)
        have HEE : Hid (extE (es ++ [d]) = 0) := (by unfold extE; rw [if_neg HNB.out, if_neg HT.out, if_pos (by have := HLE.out; omega)] : extE (es ++ [d]) = 0)
        have HF : Hid (RetExt (es ++ [d]) w (.returned (.tuple #[.slice ad6 m c6, .int .i64 0])) X) := ⟨_, _, _, by rw [HEE.out], by unfold extL; rw [if_pos HEE.out]; exact hEX, hwX⟩
        go_wp2_with fail
        go_ret2
        exact HF.out
set_option maxRecDepth 100000 in
set_option maxHeartbeats 1600000 in
theorem same_c (w : World) (e : ED) (h : e.In w) (hf : FewC e.c) : Calls Tryd.prog 28 #[.agg #[.int .i64 e.k, .int .i64 e.i, .bool e.c.neg, .slice e.c.a1 e.c.n1 e.c.c1, .slice e.c.a2 e.c.n2 e.c.c2], .agg #[.int .i64 e.k, .int .i64 e.i, .bool e.c.neg, .slice e.c.a1 e.c.n1 e.c.c1, .slice e.c.a2 e.c.n2 e.c.c2]] w (RetB true w) := by
  have hP := Pro2.mk' w #[.int .i64 e.k, .int .i64 e.i, .bool e.c.neg, .slice e.c.a1 e.c.n1 e.c.c1, .slice e.c.a2 e.c.n2 e.c.c2] #[.int .i64 e.k, .int .i64 e.i, .bool e.c.neg, .slice e.c.a1 e.c.n1 e.c.c1, .slice e.c.a2 e.c.n2 e.c.c2] 36 36
  go_enter Tryd.func28, Tryd.ntmps28
  go_upto_region 1 with (fail)
  generalize (w.alloc (.cells #[.int .i64 e.k, .int .i64 e.i, .bool e.c.neg, .slice e.c.a1 e.c.n1 e.c.c1, .slice e.c.a2 e.c.n2 e.c.c2] 36)).alloc (.cells #[.int .i64 e.k, .int .i64 e.i, .bool e.c.neg, .slice e.c.a1 e.c.n1 e.c.c1, .slice e.c.a2 e.c.n2 e.c.c2] 36) = W at *
  have hpB := hP.b0
  have hqB := hP.b1
  have hPb := hP.below
  have HPS := Lib.hid hP.size
  have eW := RD.In.on h hPb
  have k0 := hpB.cell 0
  have k1 := hpB.cell 1
  have k2 := hpB.cell 2
  have k3 := hpB.cell 3
  have k4 := hpB.cell 4
  simp at k0 k1 k2 k3 k4
  have kz := hpB.lt
  have y0 := hqB.cell 0
  have y1 := hqB.cell 1
  have y2 := hqB.cell 2
  have y3 := hqB.cell 3
  have y4 := hqB.cell 4
  simp at y0 y1 y2 y3 y4
  have yz := hqB.lt
  clear hP
  have q1 : (e.k == e.k) = true := beq_self_eq_true _
  have q2 : (e.i == e.i) = true := beq_self_eq_true _
  have hs := frsame_any (s1 := e.c.neg) (s2 := e.c.neg) W eW.num eW.den eW.num eW.den (by have := hf.1; omega) (by have := hf.2; omega) (by have := hf.1; omega) (by have := hf.2; omega)
  rw [decide_eq_true ⟨rfl, rfl, rfl⟩] at hs
  have HS := Lib.hid hs
  clear hs
  go_wp2_with fail
  refine HS.out.mono ?_
  rintro e' U ⟨rfl, hbU⟩
  go_wp2_with fail
  go_ret
  exact ⟨rfl, hPb.trans (hbU.mono (by have := HPS.out; omega))⟩
set_option maxRecDepth 100000 in
set_option maxHeartbeats 1600000 in
theorem samepath_c (w : World) {ad1 ad2 : Option Addr} {n1 n2 c1 c2 : Nat} {es : List ED} (h1 : EsR w ad1 n1 c1 es) (h2 : EsR w ad2 n2 c2 es) (hn : n1 ≤ 1048576) (hf : ∀ (i : Nat) (e : ED), es[i]? = some e → FewC e.c) :
    Calls Tryd.prog 13 #[.slice ad1 n1 c1, .slice ad2 n2 c2] w (RetB true w) := by
  have HFE : Hid (∀ (i : Nat) (e : ED), es[i]? = some e → FewC e.c) := hf
  have HL1 := Lib.hid h1.len
  clear hf
  obtain rfl : n2 = n1 := h2.len.symm.trans h1.len
  have hne : ((n2 : Int) != n2) = false := by simp
  go_enter Tryd.func13, Tryd.ntmps13
  go_wp2_with fail
  go_loopw [5] (fun s5 wr => ∃ i, i ≤ n2 ∧ s5 = .int .i64 (i : Nat) ∧ Below w.heap.size w wr) (fun i _ => n2 - (intOf i).toNat)
  case atStart => exact ⟨0, by omega, rfl, Below.refl _ _⟩
  case round =>
    obtain ⟨i, hi, rfl, hb⟩ := hrel
    by_cases hlt : i < n2
    · obtain ⟨b, o, e, rfl, hbl, HE, he, c0, c1, c2, c3, c4⟩ := (h1.on hb).at_ (i := i) hlt
      obtain ⟨b', o', e2, rfl, hbl', HE', he', g0, g1, g2, g3, g4⟩ := (h2.on hb).at_ (i := i) hlt
      obtain rfl : e = e2 := Option.some.inj (HE.out.symm.trans HE'.out)
      have lo : decide ((i : Int) < 0) = false := decide_eq_false (by omega)
      have hi' : decide ((n2 : Int) ≤ (i : Int)) = false := decide_eq_false (by omega)
      have HV : Hid (∀ x9 : Up wr, Calls Tryd.prog 28 #[.agg #[.int .i64 e.k, .int .i64 e.i, .bool e.c.neg, .slice e.c.a1 e.c.n1 e.c.c1, .slice e.c.a2 e.c.n2 e.c.c2], .agg #[.int .i64 e.k, .int .i64 e.i, .bool e.c.neg, .slice e.c.a1 e.c.n1 e.c.c1, .slice e.c.a2 e.c.n2 e.c.c2]] x9.w (RetB true x9.w)) := fun x9 => same_c x9.w e (he.on x9.below) (HFE.out i e HE.out)
      obtain ⟨hcx, hfx⟩ := upcell wr
      go_wp2_with fail
      refine wp_region_up (by kernel_rfl) (by kernel_rfl) ?_
      repeat (go_big_quiet_step ((go_at_call 28; exact up_b (HV.out _))))
      refine wpQuiet_nil ?_
      intro x
      have hbx := hb.trans (x.below.mono hb.size)
      go_wp2_with fail
      go_roundw
      case rel => exact ⟨i + 1, by omega, by go_num, hbx⟩
      case measure => simp [intOf]; omega
    · go_wp2_with fail
      go_ret
      exact ⟨rfl, hb⟩
end Go.Proofs.YtjobiobdpnhooaaDoor
namespace Go.Proofs.YtjobiobdpnhooaaDoor
open Go.RowKit

theorem all_v {es : List ED} (h : ¬ Bad es) : AllV es 1024 := fun i e he => by
  have hv : e.V := Classical.byContradiction fun h9 => h ⟨i, e, he, h9⟩
  refine ⟨hv, fun hu => ?_⟩
  rcases hv.2 with h1 | h1
  · exact h1.2.1
  · rcases ED.u_iff.1 hu with h2 | h2 <;> rcases h1.1 with h3 | h3 <;> omega
theorem bad_app {es : List ED} {d : ED} (h : ¬ Bad (es ++ [d])) : ¬ Bad es := fun ⟨i, e, he, h9⟩ => h ⟨i, e, by rw [List.getElem?_append_left (List.getElem?_eq_some_iff.1 he).1]; exact he, h9⟩
theorem tw_app {es : List ED} {d : ED} (h : ¬ Tw (es ++ [d])) : ¬ Tw es := fun ⟨i, j, x, y, hj, hi, hx, hy, h9⟩ => h ⟨i, j, x, y, hj, by rw [List.length_append]; omega, by rw [List.getElem?_append_left (List.getElem?_eq_some_iff.1 hx).1]; exact hx, by rw [List.getElem?_append_left (List.getElem?_eq_some_iff.1 hy).1]; exact hy, h9⟩
theorem ext_ok {es : List ED} (h : extE es = 0) : ¬ Bad es ∧ ¬ Tw es ∧ es.length ≤ 2048 := by
  unfold extE at h
  split at h
  · omega
  split at h
  · omega
  split at h
  · exact ⟨by assumption, by assumption, by assumption⟩
  · omega
theorem ext_path {es : List ED} (h : extE es = 0) : pathE es 1024 = 0 := by
  obtain ⟨h1, h2, h3⟩ := ext_ok h
  exact pathE_ok (by omega) (by omega) (all_v h1) h2 h3
theorem ext_path' {es : List ED} {d : ED} (h : extE (es ++ [d]) = 0) : pathE es 1024 = 0 := by
  obtain ⟨h1, h2, h3⟩ := ext_ok h
  rw [List.length_append] at h3
  exact pathE_ok (by omega) (by omega) (all_v (bad_app h1)) (tw_app h2) (by omega)
theorem phs_other {e : ED} {l : List Int} {j : Nat} (h : e.u = true → e.i.toNat ≠ j) : (phs e l)[j]? = l[j]? := by
  unfold phs
  split
  · rename_i h1
    rw [List.getElem?_set_ne (h (ED.u_iff.2 (Or.inl h1)))]
  · split
    · rename_i h1
      rw [List.getElem?_set_ne (h (ED.u_iff.2 (Or.inr h1)))]
    · rfl
theorem path_other {es : List ED} {l : List Int} {j : Nat} (h : ∀ e ∈ es, e.u = true → e.i.toNat ≠ j) : (es.foldl (fun l e => phs e l) l)[j]? = l[j]? := by
  induction es generalizing l with
  | nil => rfl
  | cons e es ih => rw [List.foldl_cons, ih (fun e he => h e (List.mem_cons_of_mem _ he)), phs_other (h e List.mem_cons_self)]
theorem ext_diff {es : List ED} {d : ED} (h : extE (es ++ [d]) = 0) {j : Nat} {x y : Int} (hx : (pathV es 1024)[j]? = some x) (hy : (pathV (es ++ [d]) 1024)[j]? = some y) (hxy : x ≠ y) : x = 0 ∧ d.i = (j : Int) := by
  obtain ⟨h1, h2, h3⟩ := ext_ok h
  have hd : (es ++ [d])[es.length]? = some d := by simp
  have hlt : j < 1024 := by
    have h9 := (List.getElem?_eq_some_iff.1 hx).1
    unfold pathV at h9
    rw [path_len, List.length_replicate] at h9
    exact h9
  have hV : d.V := (all_v h1 _ _ hd).1
  have hpv : pathV (es ++ [d]) 1024 = phs d (pathV es 1024) := by unfold pathV; rw [List.foldl_append]; rfl
  rw [hpv] at hy
  by_cases hu : d.u = true ∧ d.i.toNat = j
  · have hdj : d.i = (j : Int) := by have := hV.1; omega
    refine ⟨?_, hdj⟩
    have h0 : (pathV es 1024)[j]? = (List.replicate (1024 : Int).toNat (0 : Int))[j]? := path_other (fun e he hue hej => by
      obtain ⟨i, hi⟩ := List.mem_iff_getElem?.1 he
      have hil := (List.getElem?_eq_some_iff.1 hi).1
      have hi' : (es ++ [d])[i]? = some e := by rw [List.getElem?_append_left hil]; exact hi
      have hVe : e.V := (all_v h1 _ _ hi').1
      exact h2 ⟨es.length, i, d, e, hil, by simp, hd, hi', hu.1, hue, by have := hVe.1; omega⟩)
    rw [h0, List.getElem?_replicate, if_pos (by show j < (1024 : Int).toNat; exact hlt)] at hx
    cases hx; rfl
  · rw [phs_other (fun hu' hj => hu ⟨hu', hj⟩), hx] at hy
    cases hy
    exact absurd rfl hxy
theorem path_len' (es : List ED) : (pathV es 1024).length = 1024 := by unfold pathV; rw [path_len, List.length_replicate]; rfl
set_option maxRecDepth 100000 in
set_option maxHeartbeats 3200000 in
theorem extend_law (w : World) {ad : Option Addr} {n c : Nat} {es : List ED} {d : ED} (h : EsR w ad n c es) (hn : n ≤ 9223372036854775807) (hd : d.In w) (hG : w.cell? ⟨0, 3, none⟩ = some (.int .i64 4)) (hz : 0 < w.heap.size) :
    Calls Tryd.prog 4 #[.slice ad n c, .agg #[.int .i64 d.k, .int .i64 d.i, .bool d.c.neg, .slice d.c.a1 d.c.n1 d.c.c1, .slice d.c.a2 d.c.n2 d.c.c2]] w (RetB true w) := by
  have HL := Lib.hid h.len
  have hP := Pro1.mk' w #[.int .i64 d.k, .int .i64 d.i, .bool d.c.neg, .slice d.c.a1 d.c.n1 d.c.c1, .slice d.c.a2 d.c.n2 d.c.c2] 36
  go_enter Tryd.func4, Tryd.ntmps4
  go_upto_region 1 with (fail)
  generalize w.alloc (.cells #[.int .i64 d.k, .int .i64 d.i, .bool d.c.neg, .slice d.c.a1 d.c.n1 d.c.c1, .slice d.c.a2 d.c.n2 d.c.c2] 36) = W at *
  have hpB := hP.b0
  have hPb := hP.below
  have HPS := Lib.hid hP.size
  have hGW := (hPb.cell (p := ⟨0, 3, none⟩) hz).trans hG
  have hzW := Nat.lt_of_lt_of_le hz hPb.size
  have hesW := h.on hPb
  have hdW := hd.on hPb
  clear hP hG hz h hd
  go_wp2_with fail
  refine (awake_c W hGW hzW).mono ?_
  rintro e w1 ⟨rfl, hb1⟩
  have hw1 := hPb.trans (hb1.mono (by have := HPS.out; omega))
  have hB1 := hpB.on hb1
  have hes1 := hesW.on hb1
  have hd1 := hdW.on hb1
  clear hGW hzW hpB hesW hdW hb1 hPb
  go_wp2_with fail
  refine (large_c w1 hes1 hn).mono ?_
  rintro e w2 ⟨rfl, hb2⟩
  have hw2 := hw1.trans (hb2.mono hw1.size)
  by_cases hlg : LargeE es
  · rw [decide_eq_true hlg]
    clear hlg
    go_wp2_with fail
    go_ret
    exact ⟨rfl, hw2⟩
  rw [decide_eq_false hlg]
  obtain ⟨h40, h8⟩ := not_large hlg
  have H8 := Lib.hid h8
  have hn40 : n ≤ 40 := by have := HL.out; omega
  clear hlg h8 h40 hn
  have hB2 := hB1.on hb2
  have hes2 := hes1.on hb2
  have hd2 := hd1.on hb2
  have hQ := Pro1.mk' w2 #[.int .i64 d.k, .int .i64 d.i, .bool d.c.neg, .slice d.c.a1 d.c.n1 d.c.c1, .slice d.c.a2 d.c.n2 d.c.c2] 36
  have hE1 : EsR (w2.alloc (.cells #[.int .i64 d.k, .int .i64 d.i, .bool d.c.neg, .slice d.c.a1 d.c.n1 d.c.c1, .slice d.c.a2 d.c.n2 d.c.c2] 36)) (some ⟨w2.heap.size, 0, none⟩) 1 1 [d] :=
    ⟨rfl, Nat.le_refl _, (fun i e he => by rw [List.mem_singleton.1 (List.mem_of_getElem? he)]; exact hd2.on hQ.below), fun _ => ⟨w2.heap.size, 0, rfl, hQ.b0.lt, fun i e he => by
      rcases i with _ | i
      · cases he
        have hc := fun k => hQ.b0.cell k
        exact ⟨hc 0, hc 1, hc 2, hc 3, hc 4⟩
      · exact absurd (List.getElem?_eq_some_iff.1 he).1 (by show ¬ (i + 1 < 1); omega)⟩⟩
  have HLC := Lib.hid (large_c _ hE1 (by omega))
  have hbq := hQ.below
  clear hQ hE1 hB1 hes1 hd1 hb2 hw1
  have k0 := hB2.cell 0
  have k1 := hB2.cell 1
  have k2 := hB2.cell 2
  have k3 := hB2.cell 3
  have k4 := hB2.cell 4
  simp at k0 k1 k2 k3 k4
  have kz := hB2.lt
  go_wp2_with fail
  refine HLC.out.mono ?_
  rintro e w3 ⟨rfl, hb3⟩
  have hb23 := hbq.trans (hb3.mono hbq.size)
  have hw3 := hw2.trans (hb23.mono hw2.size)
  clear HLC hb3 hbq
  by_cases hlg : LargeE [d]
  · rw [decide_eq_true hlg]
    clear hlg
    go_wp2_with fail
    go_ret
    exact ⟨rfl, hw3⟩
  rw [decide_eq_false hlg]
  obtain ⟨_, h8⟩ := not_large hlg
  obtain ⟨h81, h82⟩ := h8 0 d rfl
  have HF := Lib.hid (⟨by have : d.c.n1 ≤ 8 := h81; omega, by have : d.c.n2 ≤ 8 := h82; omega⟩ : FewC d.c)
  have HFE : Hid (∀ (i : Nat) (e : ED), es[i]? = some e → FewC e.c) := (fun i e he => ⟨by have := (H8.out i e he).1; omega, by have := (H8.out i e he).2; omega⟩ : ∀ (i : Nat) (e : ED), es[i]? = some e → FewC e.c)
  clear hlg h8 h81 h82 H8
  have hB3 := hB2.on hb23
  have hes3 := hes2.on hb23
  have hd3 := hd2.on hb23
  clear k0 k1 k2 k3 k4 kz hB2 hes2 hd2 hb23 hw2
  have k0 := hB3.cell 0
  have k1 := hB3.cell 1
  have k2 := hB3.cell 2
  have k3 := hB3.cell 3
  have k4 := hB3.cell 4
  simp at k0 k1 k2 k3 k4
  have kz := hB3.lt
  go_wp2_with fail
  refine (extend_c w3 hes3 (by omega) hd3 HFE.out HF.out).mono ?_
  rintro e w4 ⟨a5, n5, c5, rfl, hr5, hb4⟩
  have hw4 := hw3.trans (hb4.mono hw3.size)
  have hB4 := hB3.on hb4
  have hes4 := hes3.on hb4
  have hd4 := hd3.on hb4
  clear k0 k1 k2 k3 k4 kz hB3 hes3 hd3 hb4 hw3
  have k0 := hB4.cell 0
  have k1 := hB4.cell 1
  have k2 := hB4.cell 2
  have k3 := hB4.cell 3
  have k4 := hB4.cell 4
  simp at k0 k1 k2 k3 k4
  have kz := hB4.lt
  obtain ⟨x, hx⟩ : ∃ x, x = extE (es ++ [d]) := ⟨_, rfl⟩
  rw [← hx]
  have HX := Lib.hid hx
  clear hx
  go_wp2_with fail
  refine (fextend_c w4 hes4 (by omega) hd4 HFE.out HF.out).mono ?_
  rintro e w5 ⟨a7, n7, c7, rfl, hr7, hb5⟩
  rw [← HX.out]
  have hw5 := hw4.trans (hb5.mono hw4.size)
  have hB5 := hB4.on hb5
  have hes5 := hes4.on hb5
  have hr5' := hr5.on hb5
  clear k0 k1 k2 k3 k4 kz hB4 hes4 hd4 hw4
  have q1 : (x == x) = true := beq_self_eq_true _
  have q2 : (x != x) = false := by simp
  have hl5 : n5 ≤ 41 := by
    have h1 := hr5.len
    have h2 : (extL (es ++ [d])).length ≤ 41 := by
      unfold extL
      split
      · rw [List.length_append]; have := HL.out; simp; omega
      · simp
    omega
  have HFL : Hid (∀ (i : Nat) (e : ED), (extL (es ++ [d]))[i]? = some e → FewC e.c) := (fun i e he => by
    unfold extL at he
    split at he
    · exact app_few HFE.out HF.out i e he
    · simp at he : ∀ (i : Nat) (e : ED), (extL (es ++ [d]))[i]? = some e → FewC e.c)
  have HSP := Lib.hid (samepath_c w5 hr5' hr7 (by omega) HFL.out)
  clear hr5 hr7 hb5
  go_wp2_with fail
  refine HSP.out.mono ?_
  rintro e w6 ⟨rfl, hb6⟩
  have hw6 := hw5.trans (hb6.mono hw5.size)
  have hB6 := hB5.on hb6
  have hes6 := hes5.on hb6
  have hr6 := hr5'.on hb6
  clear HSP hB5 hes5 hr5' hb6 hw5
  by_cases hx0 : x = 0
  rotate_left
  · have q3 : (x == 0) = false := by simpa using hx0
    have q4 : (x != 0) = true := by simpa using hx0
    clear hx0
    go_wp2_with fail
    go_ret
    exact ⟨rfl, hw6⟩
  subst hx0
  have hE0 : extE (es ++ [d]) = 0 := HX.out.symm
  have HP1 := Lib.hid (ext_path' hE0)
  have HP2 := Lib.hid (ext_path hE0)
  have hEL : extL (es ++ [d]) = es ++ [d] := by unfold extL; rw [if_pos hE0]
  rw [hEL] at hr6 HFL
  clear q1 q2 hEL
  have HE0 := Lib.hid hE0
  clear hE0 HX
  go_wp2_with fail
  refine (ppath_c w6 (units := 1024) hes6 (by omega) HFE.out).mono ?_
  rintro e w7 ⟨a9, n9, c9, rfl, hi9, hb7⟩
  rw [HP1.out]
  have hw7 := hw6.trans (hb7.mono hw6.size)
  have hB7 := hB6.on hb7
  have hr7 := hr6.on hb7
  clear hB6 hes6 hr6 hb7 hw6
  go_wp2_with fail
  refine (ppath_c w7 (units := 1024) hr7 (by omega) HFL.out).mono ?_
  rintro e w8 ⟨a11, n11, c11, rfl, hi11, hb8⟩
  rw [HP2.out]
  have hw8 := hw7.trans (hb8.mono hw7.size)
  have hB8 := hB7.on hb8
  have hi9' := hi9.on hb8
  clear hB7 hr7 hi9 hb8 hw7
  unfold pathL at hi9' hi11
  rw [if_pos HP1.out] at hi9'
  rw [if_pos HP2.out] at hi11
  obtain rfl : n9 = 1024 := hi9'.len.symm.trans (path_len' _)
  obtain rfl : n11 = 1024 := hi11.len.symm.trans (path_len' _)
  have k1 := hB8.cell 1
  simp at k1
  have kz := hB8.lt
  go_wp2_with fail
  go_loopw [13, 14, 72] (fun s13 _ i wr => ∃ k c : Nat, k ≤ 1024 ∧ i = .int .i64 (k : Int) ∧ s13 = .int .i64 (c : Int) ∧ c ≤ 1 ∧ Hid (c = 1 → d.i < (k : Int)) ∧ ∃ d', wr = w8.drewN d') (fun _ _ i _ => 1024 - (intOf i).toNat)
  case atStart => exact ⟨0, 0, by omega, rfl, rfl, by omega, (fun h9 => by omega : (0 : Nat) = 1 → d.i < ((0 : Nat) : Int)), 0, rfl⟩
  case round =>
    obtain ⟨k, cc, hk, rfl, rfl, hc1, HC, d', rfl⟩ := hrel
    by_cases hlt : k < 1024
    · obtain ⟨b1, o1, x, rfl, _, HX, hx⟩ := hi9'.at_ hlt
      obtain ⟨b2, o2, y, rfl, _, HY, hy⟩ := hi11.at_ hlt
      have kk0 : (0 : Int) ≤ (k : Int) := by omega
      have kk1 : (k : Int) < (1024 : Int) := by omega
      by_cases hxy : x = y
      · have HC2 : Hid (cc = 1 → d.i < ((k + 1 : Nat) : Int)) := (fun h9 => by have := HC.out h9; omega : cc = 1 → d.i < ((k + 1 : Nat) : Int))
        have e1 : (x != y) = false := by simp [hxy]
        clear hxy
        go_wp2_with fail
        go_quiet (fail)
        go_wp2_with fail
        go_roundw
        case rel => exact ⟨k + 1, cc, by omega, by go_num, rfl, hc1, HC2, by first | exact ⟨_, rfl⟩ | exact dd2 _ _ _⟩
        case measure => simp [intOf]; omega
      · obtain ⟨rfl, hdk⟩ := ext_diff HE0.out HX.out HY.out hxy
        obtain rfl : cc = 0 := by
          have h9 := HC.out
          rcases Nat.lt_or_ge 0 cc with h8 | h8
          · have := h9 (by omega); omega
          · omega
        have HC2 : Hid (d.i < ((k + 1 : Nat) : Int)) := (by omega : d.i < ((k + 1 : Nat) : Int))
        have e1 : ((0 : Int) != y) = true := bne_iff_ne.2 hxy
        rw [hdk] at k1
        clear hxy hdk
        go_wp2_with fail
        go_quiet (fail)
        go_wp2_with fail
        go_roundw
        case rel => exact ⟨k + 1, 1, by omega, by go_num, by go_num, by omega, (fun _ => HC2.out), by first | exact ⟨_, rfl⟩ | exact dd2 _ _ _⟩
        case measure => simp [intOf]; omega
    · have d1 : decide ((cc : Int) ≤ 1) = true := decide_eq_true (by omega)
      have d2 : decide (cc ≤ 1) = true := decide_eq_true (by omega)
      go_wp2_with fail
      go_ret
      exact ⟨rfl, hw8.trans (Below.drewN (Below.refl _ _) _)⟩
end Go.Proofs.YtjobiobdpnhooaaDoor
