/- A graph of which a unit is scaled, plainly: valid, with the same outputs. The text of a graph, plainly; small graphs with the same text are equal. Walks: graph.Text. Walks: relucertref15.Text. Walks: relucertref27.Text, relucertref15.number. The examples of the document of layer 15, run. relucertlaw15.awake as a row of the table. Walks: relucertlaw15.GraphText^. -/
import Derived.Test.YtlpmemelhlnfbaaGreatDoorGA12
import Derived.Test.YtlpmemelhlnfbaaGreatDoorGA13
import Derived.Test.YtlpmemelhlnfbaaGreatDoorGA9
import Derived.Test.YtlpmemelhlnfbaaGreatDoorGA5
import Derived.Test.YtlpmemelhlnfbaaGreatDoorGA6
set_option linter.all false
set_option linter.all false
set_option maxRecDepth 100000
set_option maxHeartbeats 6400000
namespace Go.Proofs.YtlpmemelhlnfbaaGreatDoor
open Go.RowKit
attribute [local irreducible] run runL loopG exec

theorem SmF.srt {N : Nat} {f : Form} (h : SmF N f) : Srt f.1 := (h.ok (vars := N) (Int.le_refl _)).srt.1
theorem SmF.inr {N : Nat} {f : Form} (h : SmF N f) : InR N f.1 := (h.ok (vars := N) (Int.le_refl _)).srt.2
end Go.Proofs.YtlpmemelhlnfbaaGreatDoor
set_option linter.all false
set_option maxRecDepth 100000
namespace Go.Proofs.YtlpmemelhlnfbaaGreatDoor
open Go.RowKit
open Lib (decDigits)

theorem jn_ch {a p : List UInt8} {neg : Bool} (ha : 10 ∉ a) (hp : 10 ∉ p) : 10 ∉ jn a neg p := by
  unfold jn
  split
  · split
    · intro h
      rcases List.mem_cons.1 h with h | h
      · exact absurd h (by decide)
      · exact hp h
    · exact hp
  · intro h
    rcases List.mem_append.1 h with h | h
    · exact ha h
    · rcases List.mem_append.1 h with h | h
      · split at h
        · exact absurd h (by decide)
        · exact absurd h (by decide)
      · exact hp h
theorem dd_ch (u : Nat) : 10 ∉ decDigits u := fun h => absurd ((dd_d u u (Nat.le_refl _)).1 10 h) (by decide)
theorem absT_ch (q : Rat) : 10 ∉ absT q := fun h => by
  unfold absT at h
  rcases List.mem_append.1 h with h | h
  · exact dd_ch _ h
  · split at h
    · cases h
    · rcases List.mem_cons.1 h with h | h
      · exact absurd h (by decide)
      · exact dd_ch _ h
theorem prt_ch (t : Int × Rat) : 10 ∉ prt t := fun h => by
  unfold prt at h
  rcases List.mem_append.1 h with h | h
  · split at h
    · cases h
    · rcases List.mem_append.1 h with h | h
      · exact absT_ch _ h
      · exact absurd h (by decide)
  · rcases List.mem_cons.1 h with h | h
    · exact absurd h (by decide)
    · exact dd_ch _ h
theorem txF_ch : ∀ (l : List (Int × Rat)) (a : List UInt8), 10 ∉ a → 10 ∉ l.foldl txS a
  | [], a, h => h
  | t :: l, a, h => txF_ch l (txS a t) (jn_ch h (prt_ch t))
theorem txt_ch (f : Form) : 10 ∉ txt f := by
  have h := txF_ch f.1 [] (fun h => by cases h)
  unfold txt
  split
  · exact jn_ch h (absT_ch _)
  · exact h
def nl (A : List (List UInt8)) : List UInt8 := A.flatMap fun a => a ++ [10]
theorem nl_snoc (A : List (List UInt8)) (a : List UInt8) : nl (A ++ [a]) = nl A ++ (a ++ [10]) := by simp [nl]
theorem nl_cons (a : List UInt8) (A : List (List UInt8)) : nl (a :: A) = a ++ 10 :: nl A := by simp [nl]
theorem cut_inj : ∀ {a b r s : List UInt8}, 10 ∉ a → 10 ∉ b → a ++ 10 :: r = b ++ 10 :: s → a = b ∧ r = s
  | [], [], r, s, _, _, h => ⟨rfl, by simpa using h⟩
  | [], y :: b, r, s, _, hb, h => by
    rw [List.nil_append, List.cons_append] at h
    have := (List.cons.inj h).1
    exact absurd (List.mem_cons.2 (.inl this)) hb
  | x :: a, [], r, s, ha, _, h => by
    rw [List.nil_append, List.cons_append] at h
    have := (List.cons.inj h).1
    exact absurd (List.mem_cons.2 (.inl this.symm)) ha
  | x :: a, y :: b, r, s, ha, hb, h => by
    rw [List.cons_append, List.cons_append] at h
    obtain ⟨h1, h2⟩ := List.cons.inj h
    obtain ⟨h3, h4⟩ := cut_inj (fun h => ha (List.mem_cons_of_mem _ h)) (fun h => hb (List.mem_cons_of_mem _ h)) h2
    exact ⟨by rw [h1, h3], h4⟩
theorem nl_inj : ∀ {A B : List (List UInt8)}, (∀ a ∈ A, 10 ∉ a) → (∀ b ∈ B, 10 ∉ b) → nl A = nl B → A = B
  | [], [], _, _, _ => rfl
  | [], b :: B, _, _, h => by rw [nl_cons] at h; exact absurd h (by simp [nl])
  | a :: A, [], _, _, h => by rw [nl_cons] at h; exact absurd h (by simp [nl])
  | a :: A, b :: B, ha, hb, h => by
    rw [nl_cons, nl_cons] at h
    obtain ⟨h1, h2⟩ := cut_inj (ha a (by simp)) (hb b (by simp)) h
    rw [h1, nl_inj (fun x hx => ha x (by simp [hx])) (fun x hx => hb x (by simp [hx])) h2]
def midU : List UInt8 := [32, 61, 32, 109, 97, 120, 40, 48, 44, 32]
def lnU (I : Int) (j : Nat) (f : Form) : List UInt8 := 120 :: (decDigits (I + (j : Int)).toNat ++ (midU ++ (txt f ++ [41])))
def lnO (j : Nat) (f : Form) : List UInt8 := 121 :: (decDigits j ++ ([32, 61, 32] ++ txt f))
def lnUs (I : Int) : Nat → List Form → List (List UInt8)
  | _, [] => []
  | j, f :: U => lnU I j f :: lnUs I (j + 1) U
def lnOs : Nat → List Form → List (List UInt8)
  | _, [] => []
  | j, f :: U => lnO j f :: lnOs (j + 1) U
def lnH (I : Int) : List UInt8 := [105, 110, 112, 117, 116, 115, 32] ++ decDigits I.toNat
def gtxt (g : TGraph) : List UInt8 := nl ((lnH g.Inputs :: lnUs g.Inputs 0 g.Units) ++ lnOs 0 g.Outputs)
theorem lnUs_snoc (I : Int) (f : Form) : ∀ (U : List Form) (j : Nat), lnUs I j (U ++ [f]) = lnUs I j U ++ [lnU I (j + U.length) f]
  | [], j => rfl
  | u :: U, j => by rw [List.cons_append, lnUs, lnUs, lnUs_snoc I f U (j + 1), List.length_cons, show j + 1 + U.length = j + (U.length + 1) from by omega]; rfl
theorem lnOs_snoc (f : Form) : ∀ (U : List Form) (j : Nat), lnOs j (U ++ [f]) = lnOs j U ++ [lnO (j + U.length) f]
  | [], j => rfl
  | u :: U, j => by rw [List.cons_append, lnOs, lnOs, lnOs_snoc f U (j + 1), List.length_cons, show j + 1 + U.length = j + (U.length + 1) from by omega]; rfl
theorem lnU_ch (I : Int) (j : Nat) (f : Form) : 10 ∉ lnU I j f := fun h => by
  unfold lnU midU at h
  rcases List.mem_cons.1 h with h | h
  · exact absurd h (by decide)
  rcases List.mem_append.1 h with h | h
  · exact dd_ch _ h
  rcases List.mem_append.1 h with h | h
  · exact absurd h (by decide)
  rcases List.mem_append.1 h with h | h
  · exact txt_ch _ h
  · exact absurd h (by decide)
theorem lnO_ch (j : Nat) (f : Form) : 10 ∉ lnO j f := fun h => by
  unfold lnO at h
  rcases List.mem_cons.1 h with h | h
  · exact absurd h (by decide)
  rcases List.mem_append.1 h with h | h
  · exact dd_ch _ h
  rcases List.mem_append.1 h with h | h
  · exact absurd h (by decide)
  · exact txt_ch _ h
theorem lnUs_mem {I : Int} {a : List UInt8} : ∀ {U : List Form} {j : Nat}, a ∈ lnUs I j U → ∃ k f, a = lnU I k f
  | [], _, h => by cases h
  | f :: U, j, h => by
    rcases List.mem_cons.1 h with h | h
    · exact ⟨j, f, h⟩
    · exact lnUs_mem h
theorem lnOs_mem {a : List UInt8} : ∀ {U : List Form} {j : Nat}, a ∈ lnOs j U → ∃ k f, a = lnO k f
  | [], _, h => by cases h
  | f :: U, j, h => by
    rcases List.mem_cons.1 h with h | h
    · exact ⟨j, f, h⟩
    · exact lnOs_mem h
theorem gl_ch (g : TGraph) : ∀ a ∈ (lnH g.Inputs :: lnUs g.Inputs 0 g.Units) ++ lnOs 0 g.Outputs, 10 ∉ a := fun a ha => by
  rcases List.mem_append.1 ha with h | h
  · rcases List.mem_cons.1 h with h | h
    · subst h
      intro h
      unfold lnH at h
      rcases List.mem_append.1 h with h | h
      · exact absurd h (by decide)
      · exact dd_ch _ h
    · obtain ⟨k, f, rfl⟩ := lnUs_mem h
      exact lnU_ch _ _ _
  · obtain ⟨k, f, rfl⟩ := lnOs_mem h
    exact lnO_ch _ _
theorem dd_inj {u v : Nat} (h : decDigits u = decDigits v) : u = v := by
  have a := (dd_d u u (Nat.le_refl _)).2.1
  have b := (dd_d v v (Nat.le_refl _)).2.1
  rw [h, b] at a
  exact a.symm
structure TxN (f : Form) : Prop where
  s : Srt f.1
  t : ∀ t ∈ f.1, TmN t
  c : NB f.2
theorem txt_inj {f g : Form} (hf : TxN f) (hg : TxN g) (h : txt f = txt g) : f = g := by
  have a := psT_txt hf.s hf.t hf.c
  rw [h, psT_txt hg.s hg.t hg.c] at a
  exact (Except.ok.inj a).symm
theorem lnUs_inj {I : Int} : ∀ {U V A B : List Form} {j : Nat}, (∀ f ∈ U, TxN f) → (∀ f ∈ V, TxN f) → (∀ f ∈ A, TxN f) → (∀ f ∈ B, TxN f) → lnUs I j U ++ lnOs 0 A = lnUs I j V ++ lnOs 0 B → U = V ∧ lnOs 0 A = lnOs 0 B
  | [], [], A, B, j, _, _, _, _, h => ⟨rfl, h⟩
  | [], v :: V, A, B, j, _, _, _, _, h => by
    cases A with
    | nil => exact absurd h (by simp [lnUs, lnOs])
    | cons a A =>
      have h2 := (List.cons.inj (show lnO 0 a :: lnOs 1 A = lnU I j v :: (lnUs I (j + 1) V ++ lnOs 0 B) from h)).1
      exact absurd (List.cons.inj h2).1 (by decide)
  | u :: U, [], A, B, j, _, _, _, _, h => by
    cases B with
    | nil => exact absurd h (by simp [lnUs, lnOs])
    | cons b B =>
      have h2 := (List.cons.inj (show lnU I j u :: (lnUs I (j + 1) U ++ lnOs 0 A) = lnO 0 b :: lnOs 1 B from h)).1
      exact absurd (List.cons.inj h2).1 (by decide)
  | u :: U, v :: V, A, B, j, hU, hV, hA, hB, h => by
    obtain ⟨h1, h2⟩ := List.cons.inj (show lnU I j u :: (lnUs I (j + 1) U ++ lnOs 0 A) = lnU I j v :: (lnUs I (j + 1) V ++ lnOs 0 B) from h)
    obtain ⟨h3, h4⟩ := lnUs_inj (fun f hf => hU f (by simp [hf])) (fun f hf => hV f (by simp [hf])) hA hB h2
    have h5 := List.append_cancel_left (List.append_cancel_left (List.cons.inj h1).2)
    have h6 := List.append_cancel_right h5
    exact ⟨by rw [txt_inj (hU u (by simp)) (hV v (by simp)) h6, h3], h4⟩
theorem lnOs_inj : ∀ {A B : List Form} {j : Nat}, (∀ f ∈ A, TxN f) → (∀ f ∈ B, TxN f) → lnOs j A = lnOs j B → A = B
  | [], [], _, _, _, _ => rfl
  | [], _ :: _, _, _, _, h => by cases h
  | _ :: _, [], _, _, _, h => by cases h
  | a :: A, b :: B, j, hA, hB, h => by
    obtain ⟨h1, h2⟩ := List.cons.inj (show lnO j a :: lnOs (j + 1) A = lnO j b :: lnOs (j + 1) B from h)
    have h5 := List.append_cancel_left (List.append_cancel_left (List.cons.inj h1).2)
    rw [txt_inj (hA a (by simp)) (hB b (by simp)) h5, lnOs_inj (fun f hf => hA f (by simp [hf])) (fun f hf => hB f (by simp [hf])) h2]
theorem gtxt_inj {g h : TGraph} (g0 : 0 ≤ g.Inputs) (h0 : 0 ≤ h.Inputs) (gu : ∀ f ∈ g.Units, TxN f) (go : ∀ f ∈ g.Outputs, TxN f) (hu : ∀ f ∈ h.Units, TxN f) (ho : ∀ f ∈ h.Outputs, TxN f) (e : gtxt g = gtxt h) : g = h := by
  have e1 := nl_inj (gl_ch g) (gl_ch h) e
  rw [List.cons_append, List.cons_append] at e1
  obtain ⟨e2, e3⟩ := List.cons.inj e1
  have e4 : g.Inputs = h.Inputs := by
    have := dd_inj (List.append_cancel_left e2)
    omega
  rw [e4] at e3
  obtain ⟨e5, e6⟩ := lnUs_inj gu hu go ho e3
  have e7 := lnOs_inj go ho e6
  obtain ⟨I, U, O⟩ := g
  obtain ⟨J, V, B⟩ := h
  dsimp only at e4 e5 e7
  rw [e4, e5, e7]
theorem nb_of {q : Rat} (h : H q ≤ 2) : NB q := by
  have a1 : (lmb q.num.natAbs).length ≤ H q := Nat.le_max_left _ _
  have a2 : (lmb q.den).length ≤ H q := Nat.le_max_right _ _
  have h1 := dd_small (K := q.num.natAbs) (m := 2) (by omega)
  have h2 := dd_small (K := q.den) (m := 2) (by omega)
  exact ⟨by omega, by omega⟩
theorem SmF.tx {N : Nat} {f : Form} (h : SmF N f) (hN : N ≤ 7) : TxN f ∧ TxB f := by
  have h1 := h.l.each
  refine ⟨⟨h.srt, fun t ht => ⟨nb_of (h1 t ht).2.2.2, (h1 t ht).1, ?_⟩, nb_of h.k⟩, ⟨by have := h.l.len; omega, fun t ht => ?_, by have := h.k; omega⟩⟩
  · have := h1 t ht
    rw [dd_lt (by omega)]; simp
  · have := h1 t ht
    exact ⟨by omega, by omega, by omega⟩
end Go.Proofs.YtlpmemelhlnfbaaGreatDoor
set_option linter.all false
set_option maxRecDepth 100000
set_option maxHeartbeats 6400000
namespace Go.Proofs.YtlpmemelhlnfbaaGreatDoor
open Go.RowKit

noncomputable def gtx_C6 : Code := (loopsOf (bodyOf Tryz.f28)).getD 0 .skip
noncomputable def gtx_C11 : Code := (loopsOf (bodyOf Tryz.f28)).getD 1 .skip
def gtx_h6 (a0 : TGraph) (i_6 : Nat) (ab : ByteArray) : St :=
  ⟨[(1, .ptr 0 0), (3, .ptr 1 0), (18, .sl 4 (a0.Units.map formC)), (19, .lit (.int .i64 (a0.Units.length : Int))), (20, .lit (.int .i64 (i_6 : Int)))],
   [(0, some (.box 38 [.lit (.int .i64 (a0.Inputs)), .sl 4 (a0.Units.map formC), .sl 4 (a0.Outputs.map formC)] false)),
    (1, some (.box 88 [.ptr 1 0, .own 2 ab.size] false)),
    (2, some (.row 5 1 (strEls ab) 0))], 3⟩
def gtx_h11 (a0 : TGraph) (i_11 : Nat) (ab : ByteArray) : St :=
  ⟨[(3, .ptr 0 0), (39, .sl 4 (a0.Outputs.map formC)), (40, .lit (.int .i64 (a0.Outputs.length : Int))), (41, .lit (.int .i64 (i_11 : Int)))],
   [(0, some (.box 88 [.ptr 0 0, .own 1 ab.size] false)),
    (1, some (.row 5 1 (strEls ab) 0))], 2⟩
def gtx_o6a (a0 : TGraph) (ab : ByteArray) : St :=
  ⟨[(1, .ptr 0 0), (3, .ptr 1 0)],
   [(0, some (.box 38 [.lit (.int .i64 (a0.Inputs)), .sl 4 (a0.Units.map formC), .sl 4 (a0.Outputs.map formC)] false)),
    (1, some (.box 88 [.ptr 1 0, .own 2 ab.size] false)),
    (2, some (.row 5 1 (strEls ab) 0))], 3⟩
def gtx_o11a (ab : ByteArray) : St :=
  ⟨[(3, .ptr 0 0)],
   [(0, some (.box 88 [.ptr 0 0, .own 1 ab.size] false)),
    (1, some (.row 5 1 (strEls ab) 0))], 2⟩
section
variable {n : Nat} {a0 : TGraph} {ab : ByteArray} {i_6 : Nat} {i_11 : Nat}
theorem gtx_r6_1 {ab rb1 : ByteArray} {a0 : TGraph} {i_6 : Nat} {F3 : List (Int × Rat)} {q3 : Rat} {r13 : ByteArray} {cat11 : ByteArray} {cat12 : ByteArray} {r14 : ByteArray} {cat13 : ByteArray} {cat14 : ByteArray} {r15 : Int} {r16 : Int} (C1 : (i_6 : Int) < (a0.Units.length : Int)) (E2 : a0.Units[i_6]? = some (F3, q3)) (W3 : InI (a0.Inputs + (i_6 : Int))) (K4 : (oItoa) [.lit (.int .i64 (a0.Inputs + (i_6 : Int)))] = some (.lit (.string r13))) (S5 : (⟨#[120]⟩ : ByteArray).size + r13.size ≤ 9000000000000000000) (D5 : cat11 = (⟨#[120]⟩ : ByteArray) ++ r13) (S6 : cat11.size + (⟨#[32, 61, 32, 109, 97, 120, 40, 48, 44, 32]⟩ : ByteArray).size ≤ 9000000000000000000) (D6 : cat12 = cat11 ++ (⟨#[32, 61, 32, 109, 97, 120, 40, 48, 44, 32]⟩ : ByteArray)) (K7 : run (n + 7) 52 [formV (F3, q3)] = some (.lit (.string r14))) (S8 : cat12.size + r14.size ≤ 9000000000000000000) (D8 : cat13 = cat12 ++ r14) (S9 : cat13.size + (⟨#[41, 10]⟩ : ByteArray).size ≤ 9000000000000000000) (D9 : cat14 = cat13 ++ (⟨#[41, 10]⟩ : ByteArray)) (K10 : runL (n + 7) 69 [.ptr 0 0, .lit (.string cat14)] [.box 88 [.ptr 0 0, .own 1 ab.size] false, .row 5 1 (strEls ab) 0] = some (.tup [.lit (.int .i64 r15), .lit .nilIface], [(0, .box 88 [.ptr 0 0, .own 2 rb1.size] false), (2, .row 5 1 (strEls rb1) 0)])) (W11 : InI ((i_6 : Int) + 1)) :
    Cont 0 (exec Tryz.prog (tab (n + 8)) 0 57 (livesOf 28) big gtx_C6) (livesOf 28 6) (gtx_h6 a0 i_6 ab) (gtx_h6 a0 (i_6 + 1) rb1) := by
  obtain ⟨ks0, hks0⟩ : ∃ k : ByteArray, (⟨#[32, 61, 32, 109, 97, 120, 40, 48, 44, 32]⟩ : ByteArray) = k := ⟨_, rfl⟩
  rw [hks0] at S6 D6
  obtain ⟨ks1, hks1⟩ : ∃ k : ByteArray, (⟨#[41, 10]⟩ : ByteArray) = k := ⟨_, rfl⟩
  rw [hks1] at S9 D9
  have C1_ : i_6 < a0.Units.length := by omega
  obtain ⟨EL2, EG2⟩ := List.getElem?_eq_some_iff.1 E2
  have W3_ : IntKind.i64.wrap (a0.Inputs + (i_6 : Int)) = a0.Inputs + (i_6 : Int) := wr64 W3.1 W3.2
  have S5_r := cat_r S5 D5
  have S5_q := cat_q S5 D5
  have S6_r := cat_r S6 D6
  have S6_q := cat_q S6 D6
  simp only [formV] at K7
  have S8_r := cat_r S8 D8
  have S8_q := cat_q S8 D8
  have S9_r := cat_r S9 D9
  have S9_q := cat_q S9 D9
  have W11_ : IntKind.i64.wrap ((i_6 : Int) + 1) = (i_6 : Int) + 1 := wr64 W11.1 W11.2
  unfold Cont
  simp +decide [gtx_h6, loopsOf, Tryz.f28, gtx_C6, C1, C1_, EL2, EG2, E2, W3_, K4, ↓S5_r, S5_q, ↓S6_r, S6_q, K7, ↓S8_r, S8_q, ↓S9_r, S9_q, K10, W11_, hks0, hks1]
theorem gtx_x6_1 (C1 : ¬ (i_6 : Int) < (a0.Units.length : Int)) :
    Leave 0 (exec Tryz.prog (tab (n + 8)) 0 57 (livesOf 28) big gtx_C6) (livesOf 28 (outOf 6)) (gtx_h6 a0 i_6 ab) (.exit 0) (gtx_o6a a0 ab) := by
  have C1_ : ¬ i_6 < a0.Units.length := by omega
  unfold Leave
  simp +decide [gtx_h6, loopsOf, Tryz.f28, gtx_o6a, gtx_C6, C1, C1_]
theorem gtx_r11_1 {ab rb1 : ByteArray} {a0 : TGraph} {i_11 : Nat} {F6 : List (Int × Rat)} {q6 : Rat} {r25 : ByteArray} {cat23 : ByteArray} {cat24 : ByteArray} {r26 : ByteArray} {cat25 : ByteArray} {cat26 : ByteArray} {r27 : Int} {r28 : Int} (C1 : (i_11 : Int) < (a0.Outputs.length : Int)) (E2 : a0.Outputs[i_11]? = some (F6, q6)) (K3 : (oItoa) [.lit (.int .i64 (i_11 : Int))] = some (.lit (.string r25))) (S4 : (⟨#[121]⟩ : ByteArray).size + r25.size ≤ 9000000000000000000) (D4 : cat23 = (⟨#[121]⟩ : ByteArray) ++ r25) (S5 : cat23.size + (⟨#[32, 61, 32]⟩ : ByteArray).size ≤ 9000000000000000000) (D5 : cat24 = cat23 ++ (⟨#[32, 61, 32]⟩ : ByteArray)) (K6 : run (n + 7) 52 [formV (F6, q6)] = some (.lit (.string r26))) (S7 : cat24.size + r26.size ≤ 9000000000000000000) (D7 : cat25 = cat24 ++ r26) (S8 : cat25.size + (⟨#[10]⟩ : ByteArray).size ≤ 9000000000000000000) (D8 : cat26 = cat25 ++ (⟨#[10]⟩ : ByteArray)) (K9 : runL (n + 7) 69 [.ptr 0 0, .lit (.string cat26)] [.box 88 [.ptr 0 0, .own 1 ab.size] false, .row 5 1 (strEls ab) 0] = some (.tup [.lit (.int .i64 r27), .lit .nilIface], [(0, .box 88 [.ptr 0 0, .own 2 rb1.size] false), (2, .row 5 1 (strEls rb1) 0)])) (W10 : InI ((i_11 : Int) + 1)) :
    Cont 0 (exec Tryz.prog (tab (n + 8)) 0 57 (livesOf 28) big gtx_C11) (livesOf 28 11) (gtx_h11 a0 i_11 ab) (gtx_h11 a0 (i_11 + 1) rb1) := by
  obtain ⟨ks0, hks0⟩ : ∃ k : ByteArray, (⟨#[32, 61, 32]⟩ : ByteArray) = k := ⟨_, rfl⟩
  rw [hks0] at S5 D5
  obtain ⟨ks1, hks1⟩ : ∃ k : ByteArray, (⟨#[10]⟩ : ByteArray) = k := ⟨_, rfl⟩
  rw [hks1] at S8 D8
  have C1_ : i_11 < a0.Outputs.length := by omega
  obtain ⟨EL2, EG2⟩ := List.getElem?_eq_some_iff.1 E2
  have S4_r := cat_r S4 D4
  have S4_q := cat_q S4 D4
  have S5_r := cat_r S5 D5
  have S5_q := cat_q S5 D5
  simp only [formV] at K6
  have S7_r := cat_r S7 D7
  have S7_q := cat_q S7 D7
  have S8_r := cat_r S8 D8
  have S8_q := cat_q S8 D8
  have W10_ : IntKind.i64.wrap ((i_11 : Int) + 1) = (i_11 : Int) + 1 := wr64 W10.1 W10.2
  unfold Cont
  simp +decide [gtx_h11, loopsOf, Tryz.f28, gtx_C11, C1, C1_, EL2, EG2, E2, K3, ↓S4_r, S4_q, ↓S5_r, S5_q, K6, ↓S7_r, S7_q, ↓S8_r, S8_q, K9, W10_, hks0, hks1]
theorem gtx_x11_1 (C1 : ¬ (i_11 : Int) < (a0.Outputs.length : Int)) :
    Leave 0 (exec Tryz.prog (tab (n + 8)) 0 57 (livesOf 28) big gtx_C11) (livesOf 28 (outOf 11)) (gtx_h11 a0 i_11 ab) (.exit 2) (gtx_o11a ab) := by
  have C1_ : ¬ i_11 < a0.Outputs.length := by omega
  unfold Leave
  simp +decide [gtx_h11, loopsOf, Tryz.f28, gtx_o11a, gtx_C11, C1, C1_]
theorem gtx_f2 {rb1 ab2 ab3 : ByteArray} {a0 : TGraph} {r : Bool} {r2 : ByteArray} {cat : ByteArray} {cat2 : ByteArray} {r3 : Int} {r4 : Int} {r29 : ByteArray} (K1 : run (n + 7) 41 [graphV a0] = some (.lit (.bool r))) (C2 : r = true) (K3 : (oItoa) [.lit (.int .i64 (a0.Inputs))] = some (.lit (.string r2))) (S4 : (⟨#[105, 110, 112, 117, 116, 115, 32]⟩ : ByteArray).size + r2.size ≤ 9000000000000000000) (D4 : cat = (⟨#[105, 110, 112, 117, 116, 115, 32]⟩ : ByteArray) ++ r2) (S5 : cat.size + (⟨#[10]⟩ : ByteArray).size ≤ 9000000000000000000) (D5 : cat2 = cat ++ (⟨#[10]⟩ : ByteArray)) (K6 : runL (n + 7) 69 [.ptr 0 0, .lit (.string cat2)] [.box 88 [(.lit (.pointer none)), .nl 1] false] = some (.tup [.lit (.int .i64 r3), .lit .nilIface], [(0, .box 88 [.ptr 0 0, .own 1 rb1.size] false), (1, .row 5 1 (strEls rb1) 0)])) (L7 : loopG Tryz.prog (tab (n + 8)) 0 57 (livesOf 28) 6 gtx_C6 (gtx_h6 a0 0 rb1) = some (.exit 0, gtx_o6a a0 ab2)) (L8 : loopG Tryz.prog (tab (n + 8)) 0 57 (livesOf 28) 11 gtx_C11 (gtx_h11 a0 0 ab2) = some (.exit 2, gtx_o11a ab3)) (K9 : runL (n + 7) 70 [.ptr 0 0] [.box 88 [.ptr 0 0, .own 1 ab3.size] false, .row 5 1 (strEls ab3) 0] = some (.lit (.string r29), [(0, .box 88 [.ptr 0 0, .own 1 ab3.size] false)])) :
    run (n + 8) 28 [graphV a0] = some (.lit (.string r29)) := by
  obtain ⟨ks0, hks0⟩ : ∃ k : ByteArray, (⟨#[10]⟩ : ByteArray) = k := ⟨_, rfl⟩
  rw [hks0] at S5 D5
  simp only [graphV] at K1
  have S4_r := cat_r S4 D4
  have S4_q := cat_q S4 D4
  have S5_r := cat_r S5 D5
  have S5_q := cat_q S5 D5
  unfold run fnP
  simp +decide [Tryz.f28, K1, C2, K3, ↓S4_r, S4_q, ↓S5_r, S5_q, K6, K9, hks0]
  subst hks0
  rw [loopX_G (C' := gtx_C6) (e := (gtx_h6 a0 0 rb1)) ?_ ?_, L7]
  rotate_left
  · kernel_rfl
  · simp +decide [gtx_h6, K1, C2, K3, K6, K9]
  simp +decide [gtx_o6a, K1, C2, K3, K6, K9]
  rw [loopX_G (C' := gtx_C11) (e := (gtx_h11 a0 0 ab2)) ?_ ?_, L8]
  rotate_left
  · kernel_rfl
  · simp +decide [gtx_h11, K1, C2, K3, K6, K9]
  simp +decide [gtx_o11a, K1, C2, K3, K6, K9]
end
end Go.Proofs.YtlpmemelhlnfbaaGreatDoor
set_option linter.all false
set_option maxRecDepth 100000
set_option maxHeartbeats 6400000
namespace Go.Proofs.YtlpmemelhlnfbaaGreatDoor
open Go.RowKit

noncomputable def gtf_C5 : Code := (loopsOf (bodyOf Tryz.f29)).getD 0 .skip
noncomputable def gtf_C9 : Code := (loopsOf (bodyOf Tryz.f29)).getD 1 .skip
def gtf_h5 (a0 : TGraph) (str_5 : ByteArray) (i_5 : Nat) : St :=
  ⟨[(1, .ptr 0 0), (3, .lit (.string str_5)), (4, .lit (.int .i64 (i_5 : Int)))],
   [(0, some (.box 38 [.lit (.int .i64 (a0.Inputs)), .sl 4 (a0.Units.map formC), .sl 4 (a0.Outputs.map formC)] false))], 1⟩
def gtf_h9 (a0 : TGraph) (str_9 : ByteArray) (i_9 : Nat) : St :=
  ⟨[(1, .ptr 0 0), (3, .lit (.string str_9)), (5, .lit (.int .i64 (i_9 : Int)))],
   [(0, some (.box 38 [.lit (.int .i64 (a0.Inputs)), .sl 4 (a0.Units.map formC), .sl 4 (a0.Outputs.map formC)] false))], 1⟩
def gtf_o5a (a0 : TGraph) (str_5 : ByteArray) : St :=
  ⟨[(1, .ptr 0 0), (3, .lit (.string str_5))],
   [(0, some (.box 38 [.lit (.int .i64 (a0.Inputs)), .sl 4 (a0.Units.map formC), .sl 4 (a0.Outputs.map formC)] false))], 1⟩
def gtf_o9a (str_9 : ByteArray) : St :=
  ⟨[(3, .lit (.string str_9))],
   [], 0⟩
section
variable {n : Nat} {cat17 : ByteArray} {a0 : TGraph} {cat14 : ByteArray} {F3 : List (Int × Rat)} {q3 : Rat} {r8 : ByteArray} {i_5 : Nat} {cat16 : ByteArray} {str_5 : ByteArray} {r7 : ByteArray} {cat15 : ByteArray} {cat13 : ByteArray} {cat28 : ByteArray} {cat30 : ByteArray} {q6 : Rat} {cat31 : ByteArray} {i_9 : Nat} {cat29 : ByteArray} {r14 : ByteArray} {r13 : ByteArray} {F6 : List (Int × Rat)} {str_9 : ByteArray} {cat32 : ByteArray} {cat : ByteArray} {r : Bool} {r2 : ByteArray} {cat2 : ByteArray}
theorem gtf_r5_1 (C1 : (i_5 : Int) < (a0.Units.length : Int)) (W2 : InI (a0.Inputs + (i_5 : Int))) (K3 : run (n + 6) 94 [.lit (.int .i64 (a0.Inputs + (i_5 : Int)))] = some (.lit (.string r7))) (S4 : (⟨#[120]⟩ : ByteArray).size + r7.size ≤ 9000000000000000000) (D4 : cat13 = (⟨#[120]⟩ : ByteArray) ++ r7) (S5 : cat13.size + (⟨#[32, 61, 32, 109, 97, 120, 40, 48, 44, 32]⟩ : ByteArray).size ≤ 9000000000000000000) (D5 : cat14 = cat13 ++ (⟨#[32, 61, 32, 109, 97, 120, 40, 48, 44, 32]⟩ : ByteArray)) (E6 : a0.Units[i_5]? = some (F3, q3)) (K7 : run (n + 6) 54 [formV (F3, q3)] = some (.lit (.string r8))) (S8 : cat14.size + r8.size ≤ 9000000000000000000) (D8 : cat15 = cat14 ++ r8) (S9 : cat15.size + (⟨#[41, 10]⟩ : ByteArray).size ≤ 9000000000000000000) (D9 : cat16 = cat15 ++ (⟨#[41, 10]⟩ : ByteArray)) (S10 : str_5.size + cat16.size ≤ 9000000000000000000) (D10 : cat17 = str_5 ++ cat16) (W11 : InI ((i_5 : Int) + 1)) :
    Cont 0 (exec Tryz.prog (tab (n + 7)) 0 60 (livesOf 29) big gtf_C5) (livesOf 29 5) (gtf_h5 a0 str_5 i_5) (gtf_h5 a0 cat17 (i_5 + 1)) := by
  obtain ⟨ks0, hks0⟩ : ∃ k : ByteArray, (⟨#[32, 61, 32, 109, 97, 120, 40, 48, 44, 32]⟩ : ByteArray) = k := ⟨_, rfl⟩
  rw [hks0] at S5 D5
  obtain ⟨ks1, hks1⟩ : ∃ k : ByteArray, (⟨#[41, 10]⟩ : ByteArray) = k := ⟨_, rfl⟩
  rw [hks1] at S9 D9
  have C1_ : i_5 < a0.Units.length := by omega
  have W2_ : IntKind.i64.wrap (a0.Inputs + (i_5 : Int)) = a0.Inputs + (i_5 : Int) := wr64 W2.1 W2.2
  have S4_r := cat_r S4 D4
  have S4_q := cat_q S4 D4
  have S5_r := cat_r S5 D5
  have S5_q := cat_q S5 D5
  obtain ⟨EL6, EG6⟩ := List.getElem?_eq_some_iff.1 E6
  simp only [formV] at K7
  have S8_r := cat_r S8 D8
  have S8_q := cat_q S8 D8
  have S9_r := cat_r S9 D9
  have S9_q := cat_q S9 D9
  have S10_r := cat_r S10 D10
  have S10_q := cat_q S10 D10
  have W11_ : IntKind.i64.wrap ((i_5 : Int) + 1) = (i_5 : Int) + 1 := wr64 W11.1 W11.2
  unfold Cont
  simp +decide [gtf_h5, loopsOf, Tryz.f29, gtf_C5, C1, C1_, W2_, K3, ↓S4_r, S4_q, ↓S5_r, S5_q, EL6, EG6, E6, K7, ↓S8_r, S8_q, ↓S9_r, S9_q, ↓S10_r, S10_q, W11_, hks0, hks1]
theorem gtf_x5_1 (C1 : ¬ (i_5 : Int) < (a0.Units.length : Int)) :
    Leave 0 (exec Tryz.prog (tab (n + 7)) 0 60 (livesOf 29) big gtf_C5) (livesOf 29 (outOf 5)) (gtf_h5 a0 str_5 i_5) (.exit 0) (gtf_o5a a0 str_5) := by
  have C1_ : ¬ i_5 < a0.Units.length := by omega
  unfold Leave
  simp +decide [gtf_h5, loopsOf, Tryz.f29, gtf_o5a, gtf_C5, C1, C1_]
theorem gtf_r9_1 (C1 : (i_9 : Int) < (a0.Outputs.length : Int)) (K2 : run (n + 6) 94 [.lit (.int .i64 (i_9 : Int))] = some (.lit (.string r13))) (S3 : (⟨#[121]⟩ : ByteArray).size + r13.size ≤ 9000000000000000000) (D3 : cat28 = (⟨#[121]⟩ : ByteArray) ++ r13) (S4 : cat28.size + (⟨#[32, 61, 32]⟩ : ByteArray).size ≤ 9000000000000000000) (D4 : cat29 = cat28 ++ (⟨#[32, 61, 32]⟩ : ByteArray)) (E5 : a0.Outputs[i_9]? = some (F6, q6)) (K6 : run (n + 6) 54 [formV (F6, q6)] = some (.lit (.string r14))) (S7 : cat29.size + r14.size ≤ 9000000000000000000) (D7 : cat30 = cat29 ++ r14) (S8 : cat30.size + (⟨#[10]⟩ : ByteArray).size ≤ 9000000000000000000) (D8 : cat31 = cat30 ++ (⟨#[10]⟩ : ByteArray)) (S9 : str_9.size + cat31.size ≤ 9000000000000000000) (D9 : cat32 = str_9 ++ cat31) (W10 : InI ((i_9 : Int) + 1)) :
    Cont 0 (exec Tryz.prog (tab (n + 7)) 0 60 (livesOf 29) big gtf_C9) (livesOf 29 9) (gtf_h9 a0 str_9 i_9) (gtf_h9 a0 cat32 (i_9 + 1)) := by
  have tR1 : tab (n + 7) 94 = some (.pure (run (n + 6) 94)) := tb_94 _
  have tR2 : tab (n + 7) 54 = some (.pure (run (n + 6) 54)) := tb_54 _
  obtain ⟨R1, hR1⟩ : ∃ R, run (n + 6) 94 = R := ⟨_, rfl⟩
  obtain ⟨R2, hR2⟩ : ∃ R, run (n + 6) 54 = R := ⟨_, rfl⟩
  obtain ⟨O, hO⟩ : ∃ O, tab (n + 7) = O := ⟨_, rfl⟩
  rw [hR1] at K2 tR1
  rw [hR2] at K6 tR2
  rw [hO] at tR1 tR2 ⊢
  clear hR1 hR2 hO
  obtain ⟨ks0, hks0⟩ : ∃ k : ByteArray, (⟨#[121]⟩ : ByteArray) = k := ⟨_, rfl⟩
  rw [hks0] at S3 D3
  obtain ⟨ks1, hks1⟩ : ∃ k : ByteArray, (⟨#[32, 61, 32]⟩ : ByteArray) = k := ⟨_, rfl⟩
  rw [hks1] at S4 D4
  obtain ⟨ks2, hks2⟩ : ∃ k : ByteArray, (⟨#[10]⟩ : ByteArray) = k := ⟨_, rfl⟩
  rw [hks2] at S8 D8
  have C1_ : i_9 < a0.Outputs.length := by omega
  have S3_r := cat_r S3 D3
  have S3_q := cat_q S3 D3
  have S4_r := cat_r S4 D4
  have S4_q := cat_q S4 D4
  obtain ⟨EL5, EG5⟩ := List.getElem?_eq_some_iff.1 E5
  simp only [formV] at K6
  have S7_r := cat_r S7 D7
  have S7_q := cat_q S7 D7
  have S8_r := cat_r S8 D8
  have S8_q := cat_q S8 D8
  have S9_r := cat_r S9 D9
  have S9_q := cat_q S9 D9
  have W10_ : IntKind.i64.wrap ((i_9 : Int) + 1) = (i_9 : Int) + 1 := wr64 W10.1 W10.2
  unfold Cont
  simp +decide [tR1, tR2, gtf_h9, loopsOf, Tryz.f29, gtf_C9, C1, C1_, K2, ↓S3_r, S3_q, ↓S4_r, S4_q, EL5, EG5, E5, K6, ↓S7_r, S7_q, ↓S8_r, S8_q, ↓S9_r, S9_q, W10_, hks0, hks1, hks2]
theorem gtf_x9_1 (C1 : ¬ (i_9 : Int) < (a0.Outputs.length : Int)) :
    Leave 0 (exec Tryz.prog (tab (n + 7)) 0 60 (livesOf 29) big gtf_C9) (livesOf 29 (outOf 9)) (gtf_h9 a0 str_9 i_9) (.exit 2) (gtf_o9a str_9) := by
  have C1_ : ¬ i_9 < a0.Outputs.length := by omega
  unfold Leave
  simp +decide [gtf_h9, loopsOf, Tryz.f29, gtf_o9a, gtf_C9, C1, C1_]
theorem gtf_f2 (K1 : run (n + 6) 25 [graphV a0] = some (.lit (.bool r))) (C2 : r = true) (K3 : run (n + 6) 94 [.lit (.int .i64 (a0.Inputs))] = some (.lit (.string r2))) (S4 : (⟨#[105, 110, 112, 117, 116, 115, 32]⟩ : ByteArray).size + r2.size ≤ 9000000000000000000) (D4 : cat = (⟨#[105, 110, 112, 117, 116, 115, 32]⟩ : ByteArray) ++ r2) (S5 : cat.size + (⟨#[10]⟩ : ByteArray).size ≤ 9000000000000000000) (D5 : cat2 = cat ++ (⟨#[10]⟩ : ByteArray)) (L6 : loopG Tryz.prog (tab (n + 7)) 0 60 (livesOf 29) 5 gtf_C5 (gtf_h5 a0 cat2 0) = some (.exit 0, gtf_o5a a0 str_5)) (L7 : loopG Tryz.prog (tab (n + 7)) 0 60 (livesOf 29) 9 gtf_C9 (gtf_h9 a0 str_5 0) = some (.exit 2, gtf_o9a str_9)) :
    run (n + 7) 29 [graphV a0] = some (.lit (.string str_9)) := by
  obtain ⟨ks0, hks0⟩ : ∃ k : ByteArray, (⟨#[105, 110, 112, 117, 116, 115, 32]⟩ : ByteArray) = k := ⟨_, rfl⟩
  rw [hks0] at S4 D4
  obtain ⟨ks1, hks1⟩ : ∃ k : ByteArray, (⟨#[10]⟩ : ByteArray) = k := ⟨_, rfl⟩
  rw [hks1] at S5 D5
  simp only [graphV] at K1
  have S4_r := cat_r S4 D4
  have S4_q := cat_q S4 D4
  have S5_r := cat_r S5 D5
  have S5_q := cat_q S5 D5
  unfold run fnP
  simp +decide [Tryz.f29, K1, C2, K3, ↓S4_r, S4_q, ↓S5_r, S5_q, hks0, hks1]
  subst hks0
  subst hks1
  rw [loopX_G (C' := gtf_C5) (e := (gtf_h5 a0 cat2 0)) ?_ ?_, L6]
  rotate_left
  · kernel_rfl
  · simp +decide [gtf_h5, K1, C2, K3]
  simp +decide [gtf_o5a, K1, C2, K3]
  rw [loopX_G (C' := gtf_C9) (e := (gtf_h9 a0 str_5 0)) ?_ ?_, L7]
  rotate_left
  · kernel_rfl
  · simp +decide [gtf_h9, K1, C2, K3]
  simp +decide [gtf_o9a, K1, C2, K3]
end
end Go.Proofs.YtlpmemelhlnfbaaGreatDoor
set_option linter.all false
set_option maxRecDepth 100000
set_option maxHeartbeats 6400000
namespace Go.Proofs.YtlpmemelhlnfbaaGreatDoor
open Go.RowKit

theorem num15_f1 {n : Nat} {a0 : Int} {r : List Nat} {r2 : ByteArray} (W1 : IntKind.u64.wrap (a0) = a0) (K2 : (oU fun k => natA (lmb k)) [.lit (.int .u64 a0)] = some (natA r)) (K3 : run (n + 4) 127 [natA r] = some (.lit (.string r2))) :
    run (n + 5) 94 [.lit (.int .i64 a0)] = some (.lit (.string r2)) := by
  unfold run fnP
  simp +decide [Tryz.f94, W1, K2, K3]
end Go.Proofs.YtlpmemelhlnfbaaGreatDoor
set_option linter.all false
set_option maxRecDepth 100000
namespace Go.Proofs.YtlpmemelhlnfbaaGreatDoor
open Go.RowKit
theorem awake15_c {n : Nat} : run 16 18 [] = some (.lit (.bool true)) := by kernel_rfl
end Go.Proofs.YtlpmemelhlnfbaaGreatDoor
set_option linter.all false
namespace Go.Proofs.YtlpmemelhlnfbaaGreatDoor
open Go.RowKit

def awG (args : List AV) : Option AV := match args with | [] => some (.lit (.bool true)) | _ => none
theorem con_awake : ∀ args r, awG args = some r → Con Tryz.prog 18 args r := fun args r hr => by
  unfold awG at hr
  split at hr
  · cases hr
    exact ((tab_ok 17).pure _ _ (tb_18 16)).2 _ _ (awake15_c (n := 0))
  · cases hr
end Go.Proofs.YtlpmemelhlnfbaaGreatDoor
set_option linter.all false
set_option maxRecDepth 100000
set_option maxHeartbeats 6400000
namespace Go.Proofs.YtlpmemelhlnfbaaGreatDoor
open Go.RowKit

noncomputable def gxlT (n : Nat) : FuncId → Option Orc := ext (tab (n + 10)) 18 (.pure awG)
theorem gxlT_ok (n : Nat) : OrcOk Tryz.prog (gxlT n) := (tab_ok (n + 10)).extP (by kernel_rfl) con_awake
noncomputable def gxl (n : Nat) (args : List AV) : Option AV := fnP Tryz.prog (gxlT n) (livesOf 5) big (fnOf 5) args
theorem gxl_con {n : Nat} {args : List AV} {r : AV} (h : gxl n args = some r) : Con Tryz.prog 5 args r :=
  con_of (gxlT_ok n) mixed (plain_fn (by kernel_rfl)) (body_some (by kernel_rfl) (plain_fn (by kernel_rfl))) h
theorem gxl_aw (n : Nat) : gxlT n 18 = some (.pure awG) := by unfold gxlT ext; rw [if_pos rfl]
theorem gxl_l20 (n : Nat) : gxlT n 20 = some (.pure (run (n + 9) 20)) := by unfold gxlT ext; rw [if_neg (by decide)]; exact tb_20 _
theorem gxl_l24 (n : Nat) : gxlT n 24 = some (.pure (run (n + 9) 24)) := by unfold gxlT ext; rw [if_neg (by decide)]; exact tb_24 _
theorem gxl_l28 (n : Nat) : gxlT n 28 = some (.pure (run (n + 9) 28)) := by unfold gxlT ext; rw [if_neg (by decide)]; exact tb_28 _
theorem gxl_l29 (n : Nat) : gxlT n 29 = some (.pure (run (n + 9) 29)) := by unfold gxlT ext; rw [if_neg (by decide)]; exact tb_29 _
section
variable {n : Nat} {a0 : List Int} {a1 : List Int} {r6 : Bool} {r4 : ByteArray} {r : TGraph} {r5 : ByteArray} {r3 : ByteArray} {r2 : TGraph}
theorem gxl_f1 (C1 : 400 < (a0.length : Int)) :
    gxl n [.sl 1 (a0.map intU8C), .sl 1 (a1.map intU8C)] = some (.lit (.bool true)) := by
  have C1_ : 400 < a0.length := by omega
  unfold gxl fnP
  simp +decide [Tryz.f5, C1, C1_, gxl_aw, awG, gxl_l20, gxl_l24, gxl_l28, gxl_l29]
theorem gxl_f2 (C1 : ¬ 400 < (a0.length : Int)) (C2 : 400 < (a1.length : Int)) :
    gxl n [.sl 1 (a0.map intU8C), .sl 1 (a1.map intU8C)] = some (.lit (.bool true)) := by
  have C1_ : ¬ 400 < a0.length := by omega
  have C2_ : 400 < a1.length := by omega
  unfold gxl fnP
  simp +decide [Tryz.f5, C1, C1_, C2, C2_, gxl_aw, awG, gxl_l20, gxl_l24, gxl_l28, gxl_l29]
theorem gxl_f3 (C1 : ¬ 400 < (a0.length : Int)) (C2 : ¬ 400 < (a1.length : Int)) (K3 : run (n + 9) 20 [.sl 1 (a0.map intU8C)] = some (graphV r)) (K4 : run (n + 9) 20 [.sl 1 (a1.map intU8C)] = some (graphV r2)) (K5 : run (n + 9) 28 [graphV r] = some (.lit (.string r3))) (K6 : run (n + 9) 29 [graphV r] = some (.lit (.string r4))) (C7 : r3 = r4) (K8 : run (n + 9) 28 [graphV r2] = some (.lit (.string r5))) (K9 : run (n + 9) 24 [graphV r, graphV r2] = some (.lit (.bool r6))) :
    gxl n [.sl 1 (a0.map intU8C), .sl 1 (a1.map intU8C)] = some (.lit (.bool (((r3.toList == r5.toList) == r6)))) := by
  have C1_ : ¬ 400 < a0.length := by omega
  have C2_ : ¬ 400 < a1.length := by omega
  simp only [graphV] at K3
  simp only [graphV] at K4
  simp only [graphV] at K5
  simp only [graphV] at K6
  have C7_ : (r3.toList == r4.toList) = true := by rw [C7]; simp
  have C7_n : (r3.toList != r4.toList) = false := by rw [bne, C7_]; rfl
  simp only [graphV] at K8
  simp only [graphV] at K9
  unfold gxl fnP
  simp +decide [Tryz.f5, C1, C1_, C2, C2_, K3, K4, K5, K6, C7_, C7_n, K8, K9, gxl_aw, awG, gxl_l20, gxl_l24, gxl_l28, gxl_l29]
end
end Go.Proofs.YtlpmemelhlnfbaaGreatDoor
