import Derived.Test.YtjpoanaoaeaneaaGreatDoorGA16
import Derived.Test.YtjpoanaoaeaneaaGreatDoorGA5
import Derived.Test.YtjpoanaoaeaneaaGreatDoorGA6
import Derived.Test.YtjpoanaoaeaneaaGreatDoorGA7
import Derived.Test.YtjpoanaoaeaneaaGreatDoorGA9
set_option linter.all false
set_option maxRecDepth 100000
set_option maxHeartbeats 6400000
namespace Go.Proofs.YtjpoanaoaeaneaaGreatDoor
open Go.RowKit
attribute [local irreducible] run runL loopG exec
section
variable {n k : Nat} {L l : List UInt8} {f : Form} {neg : Bool}
theorem rstep (hL : L.length ≤ 1000) (h : l <:+ L) (hf : RdF k f) (hk : k ≤ 1000) :
    ∃ l' bad g, runL (n + 4) 79 [.ptr 0 0, formV f, .lit (.bool neg)] [rB L l false] = some (formV g, [(0, rB L l' bad)]) ∧ l' <:+ l ∧ (bad = true → ∀ m, psL (m + 1) f neg l = .error l') ∧ (bad = false → RdF (k + 1) g ∧ ∀ m, psL (m + 1) f neg l = coL m g l') := by
  have h1 := (skL_suf l).trans h
  have P := part_c (n := n) (neg := neg) hL h1 hf hk
  have R := rpart_c (n := n) (neg := neg) hL h hf hk
  cases e : paL f neg (skL l) with
  | error r =>
    rw [e] at P R
    refine ⟨r, true, f, R, P.1.trans (skL_suf l), fun _ m => ?_, fun h => (by cases h)⟩
    rw [psL, e]
  | ok p =>
    obtain ⟨g, r⟩ := p
    rw [e] at P R
    obtain ⟨s, hg, _⟩ := P
    dsimp only at s hg
    have hco : ∀ m, psL (m + 1) f neg l = coL m g r := fun m => by rw [psL, e]; rfl
    rcases R with ⟨hd, R⟩ | R
    · refine ⟨r, true, f, R, s.trans (skL_suf l), fun _ m => ?_, fun h => (by cases h)⟩
      rw [hco]
      dsimp only at hd
      obtain ⟨c, r', rfl, hc⟩ := (isIn_D r).1 hd
      have e2 := skL_D hd
      unfold coL
      rw [e2]
      dsimp only
      rw [if_neg (fun h => by rcases h with h | h; exact isD_ne hc (by decide) h; exact isD_ne hc (by decide) h)]
    · exact ⟨r, false, g, R, s.trans (skL_suf l), fun h => (by cases h), fun _ => ⟨hg, hco⟩⟩
def RsQ (L : List UInt8) (x : Except (List UInt8) Form) (ex : Ex) (t : St) : Prop :=
  (∃ g i d, x = .ok g ∧ ex = .ret ∧ t = rps_o4a (bs L) g.1 g.2 i d) ∨ (∃ r d, x = .error r ∧ ex = .exit 0 ∧ (t = rps_o4b (bs L) (po L r) d ∨ t = rps_o4c (bs L) (po L r) d))
structure RsI (L : List UInt8) (x : Except (List UInt8) Form) (k : Nat) (l : List UInt8) (bad : Bool) (f : Form) : Prop where
  s : l <:+ L
  n : k + l.length ≤ L.length + 1
  b : bad = true → x = .error l
  g : bad = false → RdF k f ∧ x = coL (L.length + 1 - k) f l
theorem rs_bad {d4 : Bool} {x : Except (List UInt8) Form} (hI : RsI L x k l true f) :
    ∃ ex t, ex ≠ .nrm ∧ Leave 0 (exec Tryz.prog (tab (n + 5)) 0 67 (livesOf 22) big rps_C4) (livesOf 22 (outOf 4)) (rps_h4 (bs L) d4 (po L l) true f.1 f.2) ex t ∧ RsQ L x ex t :=
  ⟨_, _, by simp, rps_x4_3 (n := n) (d2_4 := true) rfl, .inr ⟨l, true, hI.b rfl, rfl, .inr rfl⟩⟩
theorem rs_rnd {x : Except (List UInt8) Form} {bad : Bool} (hL : L.length ≤ 999) (hk : 1 ≤ k) (hI : RsI L x k l bad f) :
    (∃ l' bad' g, Cont 0 (exec Tryz.prog (tab (n + 5)) 0 67 (livesOf 22) big rps_C4) (livesOf 22 4) (rps_h4 (bs L) false (po L l) bad f.1 f.2) (rps_h4 (bs L) false (po L l') bad' g.1 g.2) ∧ RsI L x (k + 1) l' bad' g)
    ∨ ∃ ex t, ex ≠ .nrm ∧ Leave 0 (exec Tryz.prog (tab (n + 5)) 0 67 (livesOf 22) big rps_C4) (livesOf 22 (outOf 4)) (rps_h4 (bs L) false (po L l) bad f.1 f.2) ex t ∧ RsQ L x ex t := by
  have hs := bs_size L
  cases bad with
  | true => exact .inr (rs_bad hI)
  | false =>
    obtain ⟨hf, hx⟩ := hI.g rfl
    have h := hI.s
    have hk2 := hI.n
    have K2 := rbk_c (n := n + 3) (bad := false) (by omega) h
    have h1 := (skL_suf l).trans h
    have K3 := rpk_c (n := n + 4) (bad := false) (by omega) h1
    cases e : skL l with
    | nil =>
      rw [e] at K2 K3
      refine .inr ⟨_, _, by simp, rps_x4_1 (n := n) rfl K2 K3 rfl (by rw [po_nil, hs]), .inl ⟨f, _, _, ?_, rfl, rfl⟩⟩
      rw [hx]
      unfold coL
      rw [e]
    | cons c r2 =>
      rw [e] at K2 K3 h1
      obtain ⟨p1, p2⟩ := po_lt h1
      have hsl := e ▸ skL_suf l
      have hll := hsl.length_le
      rw [List.length_cons] at hll
      have hx2 : x = if c = 43 ∨ c = 45 then psL (L.length + 1 - k) f (decide (c = 45)) r2 else .error (c :: r2) := by
        rw [hx]
        unfold coL
        rw [e]
      have hz : ¬ po L (c :: r2) = ((bs L).size : Int) := by rw [hs]; omega
      have eh : hd (c :: r2) = (c.toNat : Int) := rfl
      have e43 : (43 : UInt8).toNat = 43 := rfl
      have e45 : (45 : UInt8).toNat = 45 := rfl
      have go : c = 43 ∨ c = 45 → ∃ l' bad' g, runL (n + 4) 79 [.ptr 0 0, formV f, .lit (.bool (hd (c :: r2) == 45))] [rB L r2 false] = some (formV g, [(0, rB L l' bad')]) ∧ RsI L x (k + 1) l' bad' g := fun hc => by
        rw [if_pos hc, show L.length + 1 - k = (L.length - k) + 1 from by omega] at hx2
        obtain ⟨l', bad', g, R, s, hb, hg⟩ := rstep (n := n) (neg := decide (c = 45)) (by omega) (suf_tl h1) hf (by omega)
        have en : (hd (c :: r2) == 45) = decide (c = 45) := by
          rw [eh, Bool.eq_iff_iff, beq_iff_eq, decide_eq_true_eq, u8n]
          omega
        have hl' := s.length_le
        rw [en]
        refine ⟨l', bad', g, R, s.trans (suf_tl h1), by omega, fun e => ?_, fun e => ?_⟩
        · rw [hx2]; exact hb e _
        · obtain ⟨a, b⟩ := hg e
          refine ⟨a, ?_⟩
          rw [hx2, b, show L.length + 1 - (k + 1) = L.length - k from by omega]
      by_cases hc : c = 43
      · obtain ⟨l', bad', g, R, hi⟩ := go (.inl hc)
        rw [rB_sc h1] at R
        exact .inl ⟨l', bad', g, rps_r4_2 (n := n) rfl K2 K3 rfl hz (by rw [eh, hc]; rfl) (po_in (by omega) h1) R, hi⟩
      · have hc2 : ¬ hd (c :: r2) = 43 := fun e => hc (u8n.2 (by omega))
        by_cases hd : c = 45
        · obtain ⟨l', bad', g, R, hi⟩ := go (.inr hd)
          rw [rB_sc h1] at R
          exact .inl ⟨l', bad', g, rps_r4_1 (n := n) rfl K2 K3 rfl hz hc2 (by rw [eh, hd]; rfl) (po_in (by omega) h1) R, hi⟩
        · refine .inr ⟨_, _, by simp, rps_x4_2 (n := n) rfl K2 K3 rfl hz hc2 (fun e => hd (u8n.2 (by omega))), .inr ⟨c :: r2, false, ?_, rfl, .inl rfl⟩⟩
          rw [hx2, if_neg (fun h => by rcases h with h | h; exact hc h; exact hd h)]
theorem rs_first (hL : L.length ≤ 999) :
    ∃ l' bad' g, Cont 0 (exec Tryz.prog (tab (n + 5)) 0 67 (livesOf 22) big rps_C4) (livesOf 22 4) (rps_h4 (bs L) true 0 false [] 0) (rps_h4 (bs L) false (po L l') bad' g.1 g.2) ∧ RsI L (psT L) 1 l' bad' g := by
  have hs := bs_size L
  have h0 : L <:+ L := List.suffix_refl L
  have K2 := rbk_c (n := n + 3) (bad := false) (by omega) h0
  rw [rB, po_self] at K2
  have h1 := skL_suf L
  have K3 := rpk_c (n := n + 4) (bad := false) (by omega) h1
  have fin : ∀ (l : List UInt8) (neg : Bool), l <:+ L → psT L = psL (L.length + 1) ([], 0) neg l → ∃ l' bad' g, runL (n + 4) 79 [.ptr 0 0, formV ([], 0), .lit (.bool neg)] [rB L l false] = some (formV g, [(0, rB L l' bad')]) ∧ RsI L (psT L) 1 l' bad' g := fun l neg hl e => by
    obtain ⟨l', bad', g, R, s, hb, hg⟩ := rstep (n := n) (neg := neg) (by omega) hl RdF.zero (by omega)
    have hl' := s.length_le
    have hl2 := hl.length_le
    refine ⟨l', bad', g, R, s.trans hl, by omega, fun e2 => ?_, fun e2 => ?_⟩
    · rw [e]; exact hb e2 _
    · obtain ⟨a, b⟩ := hg e2
      refine ⟨a, ?_⟩
      rw [e, b, Nat.add_sub_cancel]
  unfold psT at fin
  cases e : skL L with
  | nil =>
    rw [e] at K2 K3 h1 fin
    obtain ⟨l', bad', g, R, hi⟩ := fin [] false h1 rfl
    exact ⟨l', bad', g, rps_r4_3 (n := n) rfl K2 K3 rfl (by show ¬ (0 : Int) = 43; omega) (by show ¬ (0 : Int) = 45; omega) R, by unfold psT; rw [e]; exact hi⟩
  | cons c r2 =>
    rw [e] at K2 K3 h1 fin
    dsimp only at fin
    have eh : hd (c :: r2) = (c.toNat : Int) := rfl
    have e43 : (43 : UInt8).toNat = 43 := rfl
    have e45 : (45 : UInt8).toNat = 45 := rfl
    have en : (hd (c :: r2) == 45) = decide (c = 45) := by
      rw [eh, Bool.eq_iff_iff, beq_iff_eq, decide_eq_true_eq, u8n]
      omega
    have back : ∀ {l' bad' g}, RsI L (if c = 43 ∨ c = 45 then psL (L.length + 1) ([], 0) (decide (c = 45)) r2 else psL (L.length + 1) ([], 0) false (c :: r2)) 1 l' bad' g → RsI L (psT L) 1 l' bad' g := fun h => by unfold psT; rw [e]; exact h
    by_cases hc : c = 43
    · rw [if_pos (.inl hc)] at fin back
      obtain ⟨l', bad', g, R, hi⟩ := fin r2 _ (suf_tl h1) rfl
      rw [rB_sc h1, ← en] at R
      exact ⟨l', bad', g, rps_r4_5 (n := n) rfl K2 K3 rfl (by rw [eh, hc]; rfl) (po_in (by omega) h1) R, back hi⟩
    · have hc2 : ¬ hd (c :: r2) = 43 := fun e => hc (u8n.2 (by omega))
      by_cases hd : c = 45
      · rw [if_pos (.inr hd)] at fin back
        obtain ⟨l', bad', g, R, hi⟩ := fin r2 _ (suf_tl h1) rfl
        rw [rB_sc h1, ← en] at R
        exact ⟨l', bad', g, rps_r4_4 (n := n) rfl K2 K3 rfl hc2 (by rw [eh, hd]; rfl) (po_in (by omega) h1) R, back hi⟩
      · have hn : ¬ (c = 43 ∨ c = 45) := fun h => by rcases h with h | h; exact hc h; exact hd h
        rw [if_neg hn] at fin back
        obtain ⟨l', bad', g, R, hi⟩ := fin (c :: r2) false h1 rfl
        have e0 : (Go.Proofs.YtjpoanaoaeaneaaGreatDoor.hd (c :: r2) == 45) = false := by rw [en, decide_eq_false hd]
        refine ⟨l', bad', g, rps_r4_3 (n := n) rfl K2 K3 rfl hc2 (fun e => hd (u8n.2 (by omega))) ?_, back hi⟩
        rw [e0]
        exact R
theorem rparse_c (hL : L.length ≤ 999) : run (n + 5) 22 [.lit (.string (bs L))] = some (parR L (psT L)) := by
  obtain ⟨l1, b1, g1, R1, I1⟩ := rs_first (n := n) hL
  obtain ⟨ex, t, h1, h2⟩ := loopG_Q (β := List UInt8 × Bool × Form) (P := Tryz.prog) (O := tab (n + 5)) (m := 0) (N := 67) (lives := livesOf 22) (r := 4) (C := rps_C4) (M := L.length + 1) (enc := fun k b => rps_h4 (bs L) (k == 0) (po L b.1) b.2.1 b.2.2.1 b.2.2.2)
    (fun k b => (k = 0 → b = (L, false, ([], 0))) ∧ (1 ≤ k → RsI L (psT L) k b.1 b.2.1 b.2.2)) (fun ex t => RsQ L (psT L) ex t) (L, false, ([], 0)) ⟨fun _ => rfl, fun h => (by omega)⟩ (by omega)
    (fun k b hk hI => by
      cases k with
      | zero =>
        rw [hI.1 rfl]
        refine .inl ⟨(l1, b1, g1), ?_, fun h => (by omega), fun _ => I1⟩
        dsimp only
        rw [po_self]
        exact R1
      | succ k =>
        obtain ⟨b, s, g⟩ := b
        have I := hI.2 (by omega)
        dsimp only at I ⊢
        rw [show (k + 1 == 0) = false from rfl, show (k + 1 + 1 == 0) = false from rfl]
        rcases rs_rnd (n := n) hL (by omega) I with ⟨l', bad', g', R, hi⟩ | T
        · exact .inl ⟨(l', bad', g'), R, fun h => (by omega), fun _ => hi⟩
        · exact .inr T)
    (fun b hI => by
      obtain ⟨b, s, g⟩ := b
      have I := hI.2 (by omega)
      dsimp only at I ⊢
      rw [show (L.length + 1 == 0) = false from rfl]
      rcases rs_rnd (n := n) hL (by omega) I with ⟨l', bad', g', R, hi⟩ | T
      · have := hi.n
        omega
      · exact T)
  dsimp only at h1
  rw [po_self, show ((0 : Nat) == 0) = true from rfl] at h1
  rcases h2 with ⟨g, i, d, e, rfl, rfl⟩ | ⟨r, d, e, rfl, rfl | rfl⟩
  · rw [e]; exact rps_f1 (n := n) h1
  · rw [e]; exact rps_f2 (n := n) h1
  · rw [e]; exact rps_f3 (n := n) h1
end
end Go.Proofs.YtjpoanaoaeaneaaGreatDoor
set_option linter.all false
set_option maxRecDepth 100000
namespace Go.Proofs.YtjpoanaoaeaneaaGreatDoor
open Go.RowKit
theorem awake_c {n : Nat} : run 12 15 [] = some (.lit (.bool true)) := by kernel_rfl
end Go.Proofs.YtjpoanaoaeaneaaGreatDoor
set_option linter.all false
namespace Go.Proofs.YtjpoanaoaeaneaaGreatDoor
open Go.RowKit
def awG (args : List AV) : Option AV := match args with | [] => some (.lit (.bool true)) | _ => none
theorem con_awake : ∀ args r, awG args = some r → Con Tryz.prog 15 args r := fun args r hr => by
  unfold awG at hr
  split at hr
  · cases hr
    exact ((tab_ok 13).pure _ _ (tb_15 12)).2 _ _ (awake_c (n := 0))
  · cases hr
end Go.Proofs.YtjpoanaoaeaneaaGreatDoor
set_option linter.all false
set_option maxRecDepth 100000
set_option maxHeartbeats 6400000
namespace Go.Proofs.YtjpoanaoaeaneaaGreatDoor
open Go.RowKit
noncomputable def lplT (n : Nat) : FuncId → Option Orc := ext (tab (n + 13)) 15 (.pure awG)
theorem lplT_ok (n : Nat) : OrcOk Tryz.prog (lplT n) := (tab_ok (n + 13)).extP (by kernel_rfl) con_awake
noncomputable def lpl (n : Nat) (args : List AV) : Option AV := fnP Tryz.prog (lplT n) (livesOf 4) big (fnOf 4) args
theorem lpl_con {n : Nat} {args : List AV} {r : AV} (h : lpl n args = some r) : Con Tryz.prog 4 args r :=
  con_of (lplT_ok n) mixed (plain_fn (by kernel_rfl)) (body_some (by kernel_rfl) (plain_fn (by kernel_rfl))) h
theorem lpl_aw (n : Nat) : lplT n 15 = some (.pure awG) := by unfold lplT ext; rw [if_pos rfl]
theorem lpl_l19 (n : Nat) : lplT n 19 = some (.pure (run (n + 12) 19)) := by unfold lplT ext; rw [if_neg (by decide)]; exact tb_19 _
theorem lpl_l21 (n : Nat) : lplT n 21 = some (.pure (run (n + 12) 21)) := by unfold lplT ext; rw [if_neg (by decide)]; exact tb_21 _
theorem lpl_l22 (n : Nat) : lplT n 22 = some (.pure (run (n + 12) 22)) := by unfold lplT ext; rw [if_neg (by decide)]; exact tb_22 _
section
variable {a0 : ByteArray} {n : Nat} {r6 : Int} {r : Form} {r3 : Int} {r4 : Form} {r2 : Int} {r5 : Int} {r7 : Bool}
theorem lpl_f1 (C1 : 60 < (a0.size : Int)) :
    lpl n [.lit (.string a0)] = some (.lit (.bool true)) := by
  have C1_ : 60 < a0.size := by omega
  unfold lpl fnP
  simp +decide [Tryz.f4, C1, C1_, lpl_aw, awG, lpl_l19, lpl_l21, lpl_l22]
theorem lpl_f2 (C1 : ¬ 60 < (a0.size : Int)) (K2 : run (n + 12) 19 [.lit (.string a0)] = some (.tup [formV r, .lit (.int .i64 r2), .lit (.int .i64 r3)])) (K3 : run (n + 12) 22 [.lit (.string a0)] = some (.tup [formV r4, .lit (.int .i64 r5), .lit (.int .i64 r6)])) (C4 : r2 = r5) (C5 : r3 = r6) (K6 : run (n + 12) 21 [formV r, formV r4] = some (.lit (.bool r7))) :
    lpl n [.lit (.string a0)] = some (.lit (.bool r7)) := by
  have C1_ : ¬ 60 < a0.size := by omega
  simp only [formV] at K2
  simp only [formV] at K3
  have C4_ : (r2 == r5) = true := by rw [C4]; simp
  have C4_n : (r2 != r5) = false := by rw [C4]; simp
  have C5_ : (r3 == r6) = true := by rw [C5]; simp
  have C5_n : (r3 != r6) = false := by rw [C5]; simp
  simp only [formV] at K6
  unfold lpl fnP
  simp +decide [Tryz.f4, C1, C1_, K2, K3, C4_, C4_n, C5_, C5_n, K6, lpl_aw, awG, lpl_l19, lpl_l21, lpl_l22]
end
end Go.Proofs.YtjpoanaoaeaneaaGreatDoor
set_option linter.all false
set_option maxRecDepth 100000
set_option maxHeartbeats 6400000
namespace Go.Proofs.YtjpoanaoaeaneaaGreatDoor
open Go.RowKit
noncomputable def feq_C4 : Code := (loopsOf (bodyOf Tryz.f21)).getD 0 .skip
def feq_h4 (a0 : Form) (a1 : Form) (i_4 : Nat) : St :=
  ⟨[(2, .ptr 0 0), (3, .ptr 1 0), (5, .lit (.int .i64 (i_4 : Int)))],
   [(0, some (.box 28 [.sl 4 (a0.1.map termC), .lit (.bool (rawQ a0.2).s), natA (rawQ a0.2).l1, natA (rawQ a0.2).l2] false)),
    (1, some (.box 28 [.sl 4 (a1.1.map termC), .lit (.bool (rawQ a1.2).s), natA (rawQ a1.2).l1, natA (rawQ a1.2).l2] false))], 2⟩
def feq_o4a  : St :=
  ⟨[(4, .lit (.bool false))],
   [], 0⟩
def feq_o4b  : St :=
  ⟨[(4, .any)],
   [], 0⟩
section
variable {i_4 : Nat} {a1 : Form} {q6 : Rat} {q5 : Rat} {v6 : Int} {a0 : Form} {n : Nat} {v5 : Int}
theorem feq_r4_1 (C1 : (i_4 : Int) < (a0.1.length : Int)) (E2 : a0.1[i_4]? = some (v5, q5)) (E3 : a1.1[i_4]? = some (v6, q6)) (C4 : v5 = v6) (B5a : H q5 ≤ 17179869184) (B5b : H q6 ≤ 17179869184) (C6 : q5 = q6) (W7 : InI ((i_4 : Int) + 1)) :
    Cont 0 (exec Tryz.prog (tab n) 0 57 (livesOf 21) big feq_C4) (livesOf 21 4) (feq_h4 a0 a1 i_4) (feq_h4 a0 a1 (i_4 + 1)) := by
  have C1_ : i_4 < a0.1.length := by omega
  obtain ⟨EL2, EG2⟩ := List.getElem?_eq_some_iff.1 E2
  obtain ⟨EL3, EG3⟩ := List.getElem?_eq_some_iff.1 E3
  have C4_ : (v5 == v6) = true := by rw [C4]; simp
  have C4_n : (v5 != v6) = false := by rw [C4]; simp
  have K5 := r_same (p := q5) (q := q6) B5a B5b
  have C6_ : decide (q5 = q6) = true := decide_eq_true C6
  have W7_ : IntKind.i64.wrap ((i_4 : Int) + 1) = (i_4 : Int) + 1 := wr64 W7.1 W7.2
  unfold Cont
  simp +decide [feq_h4, loopsOf, Tryz.f21, feq_C4, C1, C1_, EL2, EG2, E2, EL3, EG3, E3, C4_, C4_n, K5, C6_, W7_]
theorem feq_x4_1 (C1 : (i_4 : Int) < (a0.1.length : Int)) (E2 : a0.1[i_4]? = some (v5, q5)) (E3 : a1.1[i_4]? = some (v6, q6)) (C4 : ¬ v5 = v6) :
    Leave 0 (exec Tryz.prog (tab n) 0 57 (livesOf 21) big feq_C4) (livesOf 21 (outOf 4)) (feq_h4 a0 a1 i_4) (.ret) (feq_o4a ) := by
  have C1_ : i_4 < a0.1.length := by omega
  obtain ⟨EL2, EG2⟩ := List.getElem?_eq_some_iff.1 E2
  obtain ⟨EL3, EG3⟩ := List.getElem?_eq_some_iff.1 E3
  have C4_ : (v5 == v6) = false := by simpa using C4
  have C4_n : (v5 != v6) = true := by simpa using C4
  unfold Leave
  simp +decide [feq_h4, loopsOf, Tryz.f21, feq_o4a, feq_C4, C1, C1_, EL2, EG2, E2, EL3, EG3, E3, C4_, C4_n]
theorem feq_x4_2 (C1 : (i_4 : Int) < (a0.1.length : Int)) (E2 : a0.1[i_4]? = some (v5, q5)) (E3 : a1.1[i_4]? = some (v6, q6)) (C4 : v5 = v6) (B5a : H q5 ≤ 17179869184) (B5b : H q6 ≤ 17179869184) (C6 : ¬ (q5 = q6)) :
    Leave 0 (exec Tryz.prog (tab n) 0 57 (livesOf 21) big feq_C4) (livesOf 21 (outOf 4)) (feq_h4 a0 a1 i_4) (.ret) (feq_o4a ) := by
  have C1_ : i_4 < a0.1.length := by omega
  obtain ⟨EL2, EG2⟩ := List.getElem?_eq_some_iff.1 E2
  obtain ⟨EL3, EG3⟩ := List.getElem?_eq_some_iff.1 E3
  have C4_ : (v5 == v6) = true := by rw [C4]; simp
  have C4_n : (v5 != v6) = false := by rw [C4]; simp
  have K5 := r_same (p := q5) (q := q6) B5a B5b
  unfold Leave
  simp +decide [feq_h4, loopsOf, Tryz.f21, feq_o4a, feq_C4, C1, C1_, EL2, EG2, E2, EL3, EG3, E3, C4_, C4_n, K5, C6]
theorem feq_x4_3 (C1 : ¬ (i_4 : Int) < (a0.1.length : Int)) :
    Leave 0 (exec Tryz.prog (tab n) 0 57 (livesOf 21) big feq_C4) (livesOf 21 (outOf 4)) (feq_h4 a0 a1 i_4) (.exit 0) (feq_o4b ) := by
  have C1_ : ¬ i_4 < a0.1.length := by omega
  unfold Leave
  simp +decide [feq_h4, loopsOf, Tryz.f21, feq_o4b, feq_C4, C1, C1_]
theorem feq_f1 (C1 : ¬ (a0.1.length : Int) = (a1.1.length : Int)) :
    run n 21 [formV a0, formV a1] = some (.lit (.bool false)) := by
  have C1_ : ((a0.1.length : Int) == (a1.1.length : Int)) = false := by simpa using C1
  have C1_n : ((a0.1.length : Int) != (a1.1.length : Int)) = true := by simpa using C1
  unfold run fnP
  simp +decide [Tryz.f21, C1_, C1_n]
theorem feq_f2 (C1 : (a0.1.length : Int) = (a1.1.length : Int)) (B2a : H a0.2 ≤ 17179869184) (B2b : H a1.2 ≤ 17179869184) (C3 : ¬ (a0.2 = a1.2)) :
    run n 21 [formV a0, formV a1] = some (.lit (.bool false)) := by
  have C1_ : ((a0.1.length : Int) == (a1.1.length : Int)) = true := by rw [C1]; simp
  have C1_n : ((a0.1.length : Int) != (a1.1.length : Int)) = false := by rw [C1]; simp
  have K2 := r_same (p := a0.2) (q := a1.2) B2a B2b
  unfold run fnP
  simp +decide [Tryz.f21, C1_, C1_n, K2, C3]
theorem feq_f3 (C1 : (a0.1.length : Int) = (a1.1.length : Int)) (B2a : H a0.2 ≤ 17179869184) (B2b : H a1.2 ≤ 17179869184) (C3 : a0.2 = a1.2) (L4 : loopG Tryz.prog (tab n) 0 57 (livesOf 21) 4 feq_C4 (feq_h4 a0 a1 0) = some (.ret, feq_o4a )) :
    run n 21 [formV a0, formV a1] = some (.lit (.bool false)) := by
  have C1_ : ((a0.1.length : Int) == (a1.1.length : Int)) = true := by rw [C1]; simp
  have C1_n : ((a0.1.length : Int) != (a1.1.length : Int)) = false := by rw [C1]; simp
  have K2 := r_same (p := a0.2) (q := a1.2) B2a B2b
  have C3_ : decide (a0.2 = a1.2) = true := decide_eq_true C3
  unfold run fnP
  simp +decide [Tryz.f21, C1_, C1_n, K2, C3_]
  rw [loopX_G (C' := feq_C4) (e := (feq_h4 a0 a1 0)) ?_ ?_, L4]
  rotate_left
  · kernel_rfl
  · simp +decide [feq_h4, C1_, C1_n, K2, C3_]
  simp +decide [feq_o4a, C1_, C1_n, K2, C3_]
theorem feq_f4 (C1 : (a0.1.length : Int) = (a1.1.length : Int)) (B2a : H a0.2 ≤ 17179869184) (B2b : H a1.2 ≤ 17179869184) (C3 : a0.2 = a1.2) (L4 : loopG Tryz.prog (tab n) 0 57 (livesOf 21) 4 feq_C4 (feq_h4 a0 a1 0) = some (.exit 0, feq_o4b )) :
    run n 21 [formV a0, formV a1] = some (.lit (.bool true)) := by
  have C1_ : ((a0.1.length : Int) == (a1.1.length : Int)) = true := by rw [C1]; simp
  have C1_n : ((a0.1.length : Int) != (a1.1.length : Int)) = false := by rw [C1]; simp
  have K2 := r_same (p := a0.2) (q := a1.2) B2a B2b
  have C3_ : decide (a0.2 = a1.2) = true := decide_eq_true C3
  unfold run fnP
  simp +decide [Tryz.f21, C1_, C1_n, K2, C3_]
  rw [loopX_G (C' := feq_C4) (e := (feq_h4 a0 a1 0)) ?_ ?_, L4]
  rotate_left
  · kernel_rfl
  · simp +decide [feq_h4, C1_, C1_n, K2, C3_]
  simp +decide [feq_o4b, C1_, C1_n, K2, C3_]
end
end Go.Proofs.YtjpoanaoaeaneaaGreatDoor
set_option linter.all false
set_option maxRecDepth 100000
set_option maxHeartbeats 6400000
namespace Go.Proofs.YtjpoanaoaeaneaaGreatDoor
open Go.RowKit
attribute [local irreducible] run runL loopG exec
theorem list_all {α : Type} {l m : List α} (hl : l.length = m.length) : (∀ i, i < l.length → l[i]? = m[i]?) → l = m := fun h => by
  apply List.ext_getElem?
  intro i
  rcases Nat.lt_or_ge i l.length with hi | hi
  · exact h i hi
  · rw [List.getElem?_eq_none hi, List.getElem?_eq_none (by omega)]
theorem feq_c {n : Nat} {f g : Form} (hf : BdF 17179869184 f) (hg : BdF 17179869184 g) : run n 21 [formV f, formV g] = some (.lit (.bool (tv (f = g)))) := by
  have l1 := hf.l
  have l2 := hg.l
  by_cases hl : f.1.length = g.1.length
  · by_cases hk : f.2 = g.2
    · have L := loopG_all (O := tab n) (P := Tryz.prog) (m := 0) (N := 57) (lives := livesOf 21) (r := 4) (C := feq_C4) (M := f.1.length) (enc := feq_h4 f g) (p := fun i => tv (f.1[i]? = g.1[i]?)) (exN := .exit 0) (exE := .ret) (out := feq_o4b) (outE := feq_o4a) (by omega) (fun h => by cases h) (fun h => by cases h)
        (fun i hi _ => by
          have hx : f.1[i]? = some f.1[i] := List.getElem?_eq_getElem hi
          have hy : g.1[i]? = some (g.1[i]'(by omega)) := List.getElem?_eq_getElem _
          obtain ⟨t, ht⟩ : ∃ t, f.1[i] = t := ⟨_, rfl⟩
          obtain ⟨u, hu⟩ : ∃ u, (g.1[i]'(by omega)) = u := ⟨_, rfl⟩
          rw [ht] at hx
          rw [hu] at hy
          obtain ⟨v, q⟩ := t
          obtain ⟨v', q'⟩ := u
          have hq := hf.t _ (List.mem_of_getElem? hx)
          have hq' := hg.t _ (List.mem_of_getElem? hy)
          dsimp only at hq hq'
          refine ⟨fun hp => ?_, fun hp => ?_⟩
          · have hp := tv_true hp
            rw [hx, hy] at hp
            cases hp
            exact feq_r4_1 (by omega) hx hy rfl hq hq' rfl ⟨by omega, by omega⟩
          · have hp := tv_false hp
            rw [hx, hy] at hp
            by_cases e1 : v = v'
            · exact feq_x4_2 (by omega) hx hy e1 hq hq' fun e2 => hp (by rw [e1, e2])
            · exact feq_x4_1 (by omega) hx hy e1)
        (feq_x4_3 (by omega))
      by_cases hA : ∀ i, i < f.1.length → tv (f.1[i]? = g.1[i]?) = true
      · rw [if_pos hA] at L
        rw [tv_t (Prod.ext (list_all hl fun i hi => tv_true (hA i hi)) hk)]
        exact feq_f4 (by omega) hf.k hg.k hk L
      · rw [if_neg hA] at L
        rw [tv_f fun h => hA fun i hi => tv_t (by rw [h])]
        exact feq_f3 (by omega) hf.k hg.k hk L
    · rw [tv_f fun h => hk (by rw [h])]
      exact feq_f2 (by omega) hf.k hg.k hk
  · rw [tv_f fun h => hl (by rw [h])]
    exact feq_f1 (by omega)
end Go.Proofs.YtjpoanaoaeaneaaGreatDoor
set_option linter.all false
set_option maxRecDepth 100000
set_option maxHeartbeats 6400000
namespace Go.Proofs.YtjpoanaoaeaneaaGreatDoor
open Go.RowKit
attribute [local irreducible] run runL loopG exec
end Go.Proofs.YtjpoanaoaeaneaaGreatDoor
set_option linter.all false
namespace Go.Proofs.YtjpoanaoaeaneaaGreatDoor
open Go.RowKit
def InR (k : Nat) (F : List (Int × Rat)) : Prop := ∀ t ∈ F, 0 ≤ t.1 ∧ t.1 < (k : Int)
theorem InR.app {k : Nat} {F G : List (Int × Rat)} (h : InR k F) (g : InR k G) : InR k (F ++ G) := fun t ht => (List.mem_append.1 ht).elim (h t) (g t)
theorem InR.put {k : Nat} {v : Int} {q : Rat} (h : 0 ≤ v ∧ v < (k : Int)) : InR k (put1 v q) := fun t ht => by
  obtain ⟨rfl, _⟩ := put1_mem ht
  exact h
theorem InR.plus {k : Nat} {v : Int} {c : Rat} (hv : 0 ≤ v ∧ v < (k : Int)) : ∀ {d : Bool} {F : List (Int × Rat)}, InR k F → InR k (plusV d F v c)
  | d, [], _ => by
    rw [plusV]
    split
    · exact fun t ht => by cases ht
    · exact InR.put hv
  | d, t :: F, h => by
    have ht : 0 ≤ t.1 ∧ t.1 < (k : Int) := h t (by simp)
    have hF : InR k F := fun u hu => h u (by simp [hu])
    rw [plusV]
    split
    · exact (InR.put ht).app (InR.plus hv hF)
    · split
      · exact (InR.put hv).app ((InR.put ht).app (InR.plus hv hF))
      · exact (InR.put ht).app (InR.plus hv hF)
theorem TmB.bd {m : Nat} {f : Form} (h : TmB m f.1) (hl : f.1.length ≤ 100000000) (hk : H f.2 ≤ m) : BdF m f := ⟨hl, fun t ht => (h t ht).2, hk⟩
end Go.Proofs.YtjpoanaoaeaneaaGreatDoor
set_option linter.all false
set_option maxRecDepth 100000
set_option maxHeartbeats 6400000
namespace Go.Proofs.YtjpoanaoaeaneaaGreatDoor
open Go.RowKit
attribute [local irreducible] run runL loopG exec lpl
theorem psL_rd {L : List UInt8} (hL : L.length ≤ 1000) : ∀ (K k : Nat) (f : Form) (neg : Bool) (l : List UInt8), l <:+ L → RdF k f → k + K ≤ 1000 → ∀ g, psL K f neg l = .ok g → ∃ j, j ≤ k + K ∧ RdF j g
  | 0, k, f, neg, l, _, _, _, g, h => by rw [psL] at h; cases h
  | K + 1, k, f, neg, l, hl, hf, hk, g, h => by
    have h1 := (skL_suf l).trans hl
    have P := part_c (n := 0) (neg := neg) hL h1 hf (by omega)
    rw [psL] at h
    cases e : paL f neg (skL l) with
    | error r => rw [e] at h; cases h
    | ok p =>
      obtain ⟨g', r⟩ := p
      rw [e] at h P
      obtain ⟨s, hg, _⟩ := P
      dsimp only at s hg h
      cases e2 : skL r with
      | nil =>
        rw [e2] at h
        cases h
        exact ⟨k + 1, by omega, hg⟩
      | cons c r2 =>
        rw [e2] at h
        dsimp only at h
        split at h
        · obtain ⟨j, h3, h4⟩ := psL_rd hL K (k + 1) g' _ r2 ((suf_tl (e2 ▸ skL_suf r)).trans (s.trans h1)) hg (by omega) g h
          exact ⟨j, by omega, h4⟩
        · cases h
theorem psT_rd {L : List UInt8} (hL : L.length ≤ 900) {g : Form} (h : psT L = .ok g) : ∃ j, j ≤ 901 ∧ RdF j g := by
  have h1 := skL_suf L
  unfold psT at h
  cases e : skL L with
  | nil =>
    rw [e] at h h1
    obtain ⟨j, a, b⟩ := psL_rd (L := L) (by omega) _ 0 _ _ _ h1 RdF.zero (by omega) g h
    exact ⟨j, by omega, b⟩
  | cons c r =>
    rw [e] at h h1
    dsimp only at h
    split at h
    · obtain ⟨j, a, b⟩ := psL_rd (L := L) (by omega) _ 0 _ _ _ (suf_tl h1) RdF.zero (by omega) g h
      exact ⟨j, by omega, b⟩
    · obtain ⟨j, a, b⟩ := psL_rd (L := L) (by omega) _ 0 _ _ _ h1 RdF.zero (by omega) g h
      exact ⟨j, by omega, b⟩
theorem lpl_law (L : List UInt8) : Con Tryz.prog 4 [.lit (.string (bs L))] (.lit (.bool true)) := by
  have hs := bs_size L
  by_cases h : 60 < L.length
  · exact lpl_con (n := 0) (lpl_f1 (by rw [hs]; omega))
  have C1 : ¬ 60 < ((bs L).size : Int) := by rw [hs]; omega
  have A := parse_c (n := 1) (L := L) (by omega)
  have B := rparse_c (n := 7) (L := L) (by omega)
  cases e : psT L with
  | error r =>
    rw [e] at A B
    have z : (AV.agg [.sl 4 [], .lit (.bool false), .sl 1 [], .sl 1 []]) = formV ([], 0) := by simp
    unfold parR at A B
    rw [z] at A B
    have hb : BdF 17179869184 (([], 0) : Form) := ⟨by simp, fun t ht => (by cases ht), by show H 0 ≤ _; decide⟩
    have Q := feq_c (n := 12) hb hb
    rw [tv_t rfl] at Q
    exact lpl_con (n := 0) (lpl_f2 C1 A B rfl rfl Q)
  | ok g =>
    rw [e] at A B
    obtain ⟨j, hj, hg⟩ := psT_rd (by omega) e
    have hl := hg.l
    have hc := hg.c
    have hb : BdF 17179869184 g := ((TmB.mono hg.t (by omega)).bd (m := 1000000) (by omega) (by omega)).mono (by omega)
    have Q := feq_c (n := 12) hb hb
    rw [tv_t rfl] at Q
    exact lpl_con (n := 0) (lpl_f2 C1 A B rfl rfl Q)
end Go.Proofs.YtjpoanaoaeaneaaGreatDoor
