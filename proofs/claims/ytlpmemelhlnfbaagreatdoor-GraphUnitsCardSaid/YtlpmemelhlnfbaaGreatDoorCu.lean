/- (*strings.Builder).copyCheck, as a row of the table of callees. -/
import Derived.Test.YtlpmemelhlnfbaaGreatDoorCt
import Derived.Lib.Builder
import Derived.Laws.Externs
set_option linter.all false
set_option linter.all false
set_option maxRecDepth 100000
set_option maxHeartbeats 2000000
namespace Go.Proofs.YtlpmemelhlnfbaaGreatDoor
open Go.RowKit

theorem cc_used {w : World} {g : Nat} (h0 : w.cell? ⟨g, 0, none⟩ = some (.pointer (some ⟨g, 0, none⟩))) :
    Calls Tryz.prog 146 #[.pointer (some ⟨g, 0, none⟩)] w fun e w' => e = .returned (.tuple #[]) ∧ w' = w := by
  have hj : ∃ j, Tryz.prog.info? 88 = some j ∧ j.size = 2 := ⟨_, rfl, rfl⟩
  obtain ⟨j, hj, _⟩ := hj
  have u121 : Tryz.prog.underlying 86 = some (.pointer 88) := by kernel_rfl
  go_enter Tryz.func146, Tryz.ntmps146
  go_wp2
  rw [Lib.run_neq_ptr_same w _ u121 hj]
  go_wp2
  go_end0
  exact ⟨rfl, rfl⟩
theorem cc_fresh {w : World} {g : Nat} (h0 : w.cell? ⟨g, 0, none⟩ = some (.pointer none)) (hsh : w.shape? g = some (88, 2)) (hfz : w.frozen? ⟨g, 0, none⟩ = false) :
    Calls Tryz.prog 146 #[.pointer (some ⟨g, 0, none⟩)] w fun e w' => e = .returned (.tuple #[]) ∧ w' = w.setCell ⟨g, 0, none⟩ (.pointer (some ⟨g, 0, none⟩)) := by
  have hj : ∃ j, Tryz.prog.info? 88 = some j ∧ j.size = 2 := ⟨_, rfl, rfl⟩
  obtain ⟨j, hj, hjs⟩ := hj
  have u121 : Tryz.prog.underlying 86 = some (.pointer 88) := by kernel_rfl
  have u256 : Tryz.prog.underlying 189 = some .unsafePointer := by kernel_rfl
  have hl : liesAt Tryz.prog Tryz.prog.depth 88 (2 / Tryz.prog.cellsOf 88) 0 88 1 = true := by kernel_rfl
  go_enter Tryz.func146, Tryz.ntmps146
  go_wp2
  rw [Lib.run_to_unsafe w ⟨g, 0, none⟩ u121 u256 hj (by rw [hjs]; decide) hsh (Nat.zero_lt_succ 1)]
  simp only [Result.andThen]
  rw [Oper.upon_value]
  go_wp2
  rw [run_callFunc_extern Tryz.func193 (by kernel_rfl) (by kernel_rfl) (by kernel_rfl) (e := Extern.AbiNoEscape.same) (by kernel_rfl)]
  rw [Lib.run_noEscape]
  simp only [Result.andThen]
  rw [Oper.upon_value]
  go_wp2
  rw [Lib.run_from_unsafe w ⟨g, 0, none⟩ u256 u121 hj hsh hl]
  simp only [Result.andThen]
  rw [Oper.upon_value]
  go_wp2
  go_end0
  exact ⟨rfl, rfl⟩
def enumB : List AB → Nat → List (Nat × AB)
  | [], _ => []
  | b :: l, i => (i, b) :: enumB l (i + 1)
theorem lookB_enum : ∀ (l : List AB) (k i : Nat), lookB (enumB l k) i = if k ≤ i then l[i - k]? else none
  | [], k, i => by simp [enumB, lookB]
  | b :: l, k, i => by
    rw [enumB, lookB]
    by_cases e : i = k
    · subst e; simp
    · rw [if_neg e, lookB_enum l (k + 1) i]
      by_cases h : k ≤ i
      · rw [if_pos (by omega), if_pos h, show i - k = (i - (k + 1)) + 1 by omega, List.getElem?_cons_succ]
      · rw [if_neg (by omega), if_neg h]
def isSelf : AV → Bool
  | .lit (.pointer none) => true
  | .ptr 0 0 => true
  | _ => false
/-- (*strings.Builder).copyCheck: the builder knows its own address -/
def ccG : List AV → List AB → Option (AV × List (Nat × AB))
  | [.ptr 0 0], .box t [p, x] false :: rest => if t = 88 ∧ isSelf p = true then some (.tup [], enumB (.box 88 [.ptr 0 0, x] false :: rest) 0) else none
  | _, _ => none
theorem setCell_eq {w : World} {g : Nat} {cur : Array Value} {t : TypeId} {fr : Nat × Nat} (hg : w.heap[g]? = some (.cells cur t fr)) (u : Value) : w.setCell ⟨g, 0, none⟩ u = w.setRow g (cur.setIfInBounds 0 u) := by
  have key : (w.setCell ⟨g, 0, none⟩ u).heap = (w.setRow g (cur.setIfInBounds 0 u)).heap := by
    apply Array.ext_getElem?
    intro i
    by_cases e : i = g
    · subst e
      rw [setRow_heap w i cur _ t fr hg]
      simp [World.setCell, Array.getElem?_modify, hg]
    · rw [heap_setRow_ne w g _ i e]
      simp [World.setCell, Array.getElem?_modify, Ne.symm e]
  unfold World.setCell World.setRow at key ⊢
  simp only at key
  rw [key]
theorem con_cc : ∀ bin args r outs, ccG args bin = some (r, outs) → ConL Tryz.prog 146 bin args r outs := fun bin args r outs hr => by
  unfold ccG at hr
  split at hr
  · rename_i t p x rest
    split at hr
    · rename_i hc
      obtain ⟨rfl, hp⟩ := hc
      cases hr
      intro w E L vs hbs hn hvs
      obtain ⟨v, rfl, hv⟩ := rv_list1 hvs
      obtain ⟨g, cells, hL, hg, hsz, hcell, hnu⟩ := hbs.blk 0 _ rfl
      have ev : v = .pointer (some ⟨g, 0, none⟩) := by
        cases hv with
        | t hv => cases hv
        | ptr h => rw [hL] at h; cases h; rfl
      subst ev
      have hs2 : cells.size = 2 := hsz
      have c0 : w.cell? ⟨g, 0, none⟩ = some (cells.getD 0 undef) := by
        simp [World.cell?, hg, Array.getD_eq_getD_getElem?, Array.getElem?_eq_getElem (show 0 < cells.size by omega)]
      have hp0 := hcell 0 p rfl
      have eB : (fun i => (AB.box 88 [.ptr 0 0, x] false :: rest)[i]?) = lookB (enumB (.box 88 [.ptr 0 0, x] false :: rest) 0) := by
        funext i; rw [lookB_enum]; simp
      unfold isSelf at hp
      split at hp
      · obtain e0 := rep_lit hp0
        rw [e0] at c0
        have hT : tyOf Tryz.prog 86 = some (false, 1) := by kernel_rfl
        obtain ⟨_, _, w', hrun, haft⟩ := st_sound (P := Tryz.prog) (T := fun _ => .any) hbs hT hv hv (nx := 0) (r := .any) (up := [(0, some (.box 88 [.ptr 0 0, x] false))]) (nx' := 0) rfl
        have hw' : w' = w.setCell ⟨g, 0, none⟩ (.pointer (some ⟨g, 0, none⟩)) := by
          have h1 := run_storeAt (P := Tryz.prog) hT (v := .pointer (some ⟨g, 0, none⟩)) rfl (fun x hx => by simp [Value.cells] at hx; subst hx; rfl) hg (o := 0) (by omega)
          rw [h1] at hrun
          have h2 : w.setRow g (splice cells.toList 0 (Value.pointer (some ⟨g, 0, none⟩)).cells.toList).toArray = w' := by injection hrun
          rw [setCell_eq hg, ← h2]
          congr 1
          apply Array.toList_inj.1
          match hcl : cells.toList, (by simpa using hs2 : cells.toList.length = 2) with
          | [a, b], _ => simp [splice, Value.cells, hcl]
        subst hw'
        refine (cc_fresh c0 (by simp [World.shape?, hg, hs2]) (by simp [World.frozen?, hg])).mono ?_
        rintro e w' ⟨rfl, rfl⟩
        have eU : updB (fun i => (AB.box 88 [.lit (.pointer none), x] false :: rest)[i]?) [(0, some (.box 88 [.ptr 0 0, x] false))] = lookB (enumB (.box 88 [.ptr 0 0, x] false :: rest) 0) := by
          rw [← eB]
          funext i
          cases i with
          | zero => rfl
          | succ i => simp [updB, getU]
        rw [eU] at haft
        exact ⟨_, L, rfl, fun _ _ _ h => h, haft.bs, .t (.tup rfl fun i d hi => by simp at hi), haft.run⟩
      · generalize cells.getD 0 undef = u0 at hp0 c0
        cases hp0 with
        | t h => cases h
        | ptr h =>
          rw [hL] at h; cases h
          refine (cc_used c0).mono ?_
          rintro e w' ⟨rfl, rfl⟩
          refine ⟨_, L, rfl, fun _ _ _ h => h, ?_, .t (.tup rfl fun i d hi => by simp at hi), ?_⟩
          · rw [← eB]; exact hbs
          · rw [← eB]; exact Run.refl
      · cases hp
    · cases hr
  · cases hr
end Go.Proofs.YtlpmemelhlnfbaaGreatDoor
