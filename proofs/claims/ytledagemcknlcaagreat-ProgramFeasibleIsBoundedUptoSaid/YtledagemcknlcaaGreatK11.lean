/- relucertlaw27.ProgramPoints: the call returns true. a point that came in. -/
import Derived.Test.YtledagemcknlcaaGreatK10
set_option linter.all false
namespace Go.Proofs.YtledagemcknlcaaGreat
open Go.RowKit

theorem smp_ok {w : World} {ad : Option Addr} {n c : Nat} {xs : List RD} (h : PtR w ad n c xs) (hs : SmP n xs) : OkP 5 xs := fun i r hr =>
  ⟨(hs.2 i r hr).2.2, by have h1 := (RD.ok_c (h.ok i r hr) (hs.2 i r hr).2.2).H_le; have := (hs.2 i r hr).1; have := (hs.2 i r hr).2.1; omega⟩
theorem eq_refl_b (b : Bool) : (b == b) = true := by cases b <;> rfl

end Go.Proofs.YtledagemcknlcaaGreat
namespace Go.Proofs.YtledagemcknlcaaGreat
open Go.ChangeShapes Go.WideShapes Go.RowKit Go.Deep
theorem op_point {H : Type} {enc : TypeId × Value → H} {w : World} {base : Nat} {spare : Nat → Bool} {held : Bool} {fuel : Nat} {ad : Option Addr} {n c : Nat} {x : DataW H × List MemPlace} (h : DataW.trod enc Tryz.prog w base spare held fuel 42 (Value.slice ad n c).cells.toList = some x) :
    ∃ xs : List RD, PtR w ad n c xs ∧ n ≤ 9223372036854775807 ∧ LenP xs := by
  obtain ⟨ad', n', c', us, hcs, h1, h2, h3, h4⟩ := op_pt h
  simp [Value.cells] at hcs
  obtain ⟨rfl, rfl, rfl⟩ := hcs
  have hm : maxLen = 9223372036854775807 := rfl
  have hall : ∀ (i : Nat) (r : RD), us[i]? = some r → r.In w ∧ r.n1 ≤ maxLen ∧ r.n2 ≤ maxLen := fun i r hr => by
    obtain ⟨b, o, _, _, hc⟩ := h4 (by have := (List.getElem?_eq_some_iff.1 hr).1; omega)
    exact (hc i r hr).1
  refine ⟨us, ⟨h1, h2, fun i r hr => (hall i r hr).1, fun h0 => ?_⟩, by omega, fun i r hr => ⟨by have := (hall i r hr).2.1; omega, by have := (hall i r hr).2.2; omega⟩⟩
  obtain ⟨b, o, e, hb, hc⟩ := h4 h0
  exact ⟨b, o, e, hb, fun i r hr => (hc i r hr).2⟩
end Go.Proofs.YtledagemcknlcaaGreat
