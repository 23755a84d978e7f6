/-
  No cell of these rows narrows 'for every input' (looked for: loops, veiled, ifaces, maps, wideKeys, modest, calm, conditions, laid).
  DERIVED. THE GIVEN ROWS OF THIS SEAT. 3 by the template 'for every input the law returns true; each argument reads behind the call as it read before'; 0 by the template 'total and deterministic' (their statements: YtledagemcknlcaaTotals.lean).
  GIVEN WITH THE SEED: the statements are not yours to turn. If you find one false, say at which input.
  Laid BY PROGRAM, IN A SANDBOX (cutbox-rows.mjs): the forced cells as the released guide's own fill.sh prints them over the translation 2ba13ea8c3dd565f… (all of the seat's roots in one cut). By AI agents, Wed Nov 11 2026. No macro, syntax, notation, axiom, sorry.
-/
import Derived.Test.YtledagemcknlcaaChecked
import GoSem.Claim
import GoSem.ClaimJoined
import GoSem.ClaimMapViews
import Derived.JoinedTies
import Derived.KernelRfl
namespace Go.Proofs.Ytledagemcknlcaa
/- THE CELL 'sum', in the pinned program and in every row, IS THE sha256 OF THE DUMP (.gsa) THAT YtledagemcknlcaaProg.lean LOADS. Nothing in Lean hashes anything: it is a label: what it is worth is what the hold of that sum in a sandbox is worth. -/
noncomputable def Try.pinned : Pinned := { name := "ytledagemcknlcaa", sum := "2ba13ea8c3dd565f1702826dfae8cb19658c355dc73d672794c103efe6e0a07f", checked := Try.checked }
namespace Rows
def none {H : Type} : Left H := { results := [], args := [] }

/-- 'relucertlaw27.ProgramValid': WHATEVER THE INPUT: true; the input reads as it did. -/
def programValidSpec : ChangeSpec := { name := "programValid", fn := fun _ => fun
  | [d] => { results := [.lit (.bool true)], args := [d] }
  | _ => none }
def programValidRow : OpenClaim := { program := "ytledagemcknlcaa", sum := "2ba13ea8c3dd565f1702826dfae8cb19658c355dc73d672794c103efe6e0a07f", func := "relucert/relucertlaw27.ProgramValid", spec := "programValid", unfollowed := true, recurses := true, apart := false }
def ProgramValidSaid : Prop := programValidRow.holds Try.pinned (OpenSpec.ofChange programValidSpec)

/-- ITS FALSE NEIGHBOUR: 'it returns false'. Refute it at one input. -/
def programValidWrong : ChangeSpec := { name := "programValid", fn := fun _ => fun
  | [d] => { results := [.lit (.bool false)], args := [d] }
  | _ => none }
def ProgramValidWrongFalsely : Prop := programValidRow.holds Try.pinned (OpenSpec.ofChange programValidWrong)

/-- 'relucertlaw27.ProgramPoints': WHATEVER THE INPUT: true; the input reads as it did. -/
def programPointsSpec : ChangeSpec := { name := "programPoints", fn := fun _ => fun
  | [d1, d2] => { results := [.lit (.bool true)], args := [d1, d2] }
  | _ => none }
def programPointsRow : OpenClaim := { program := "ytledagemcknlcaa", sum := "2ba13ea8c3dd565f1702826dfae8cb19658c355dc73d672794c103efe6e0a07f", func := "relucert/relucertlaw27.ProgramPoints", spec := "programPoints", unfollowed := true, recurses := true, apart := false }
def ProgramPointsSaid : Prop := programPointsRow.holds Try.pinned (OpenSpec.ofChange programPointsSpec)

/-- ITS FALSE NEIGHBOUR: 'it returns false'. Refute it at one input. -/
def programPointsWrong : ChangeSpec := { name := "programPoints", fn := fun _ => fun
  | [d1, d2] => { results := [.lit (.bool false)], args := [d1, d2] }
  | _ => none }
def ProgramPointsWrongFalsely : Prop := programPointsRow.holds Try.pinned (OpenSpec.ofChange programPointsWrong)

/-- 'relucertlaw27.ProgramWeakDuality': WHATEVER THE INPUT: true; the input reads as it did. -/
def programWeakDualitySpec : ChangeSpec := { name := "programWeakDuality", fn := fun _ => fun
  | [d1, d2, d3] => { results := [.lit (.bool true)], args := [d1, d2, d3] }
  | _ => none }
def programWeakDualityRow : OpenClaim := { program := "ytledagemcknlcaa", sum := "2ba13ea8c3dd565f1702826dfae8cb19658c355dc73d672794c103efe6e0a07f", func := "relucert/relucertlaw27.ProgramWeakDuality", spec := "programWeakDuality", unfollowed := true, recurses := true, apart := false }
def ProgramWeakDualitySaid : Prop := programWeakDualityRow.holds Try.pinned (OpenSpec.ofChange programWeakDualitySpec)

/-- ITS FALSE NEIGHBOUR: 'it returns false'. Refute it at one input. -/
def programWeakDualityWrong : ChangeSpec := { name := "programWeakDuality", fn := fun _ => fun
  | [d1, d2, d3] => { results := [.lit (.bool false)], args := [d1, d2, d3] }
  | _ => none }
def ProgramWeakDualityWrongFalsely : Prop := programWeakDualityRow.holds Try.pinned (OpenSpec.ofChange programWeakDualityWrong)

/- THE SECOND FORM. 'bulk': how many values and letters a reading holds, each counted each time it is reached (what is shared counts as often as it is met; a slice's spare places count too). A statement '..UptoSaid' is the law's where the arguments, and the package variables that the reading takes, are together of bulk at most 1048576: NARROWER than '..Said'. Prove '..Said' where nothing that the law and all that it calls make is longer than what came in: it says more and counts as full. Else prove '..UptoSaid'. A law counts once. -/
mutual
def uptoBulk {H : Type} : DataW H → Nat
  | .lit (.string bytes) => bytes.length + 1
  | .lit _ => 1
  | .nil => 1
  | .ptr d => uptoBulk d + 1
  | .slice elems spare => uptoBulkAll elems + uptoBulkAll spare + 1
  | .agg parts => uptoBulkAll parts + 1
  | .iface _ d => uptoBulk d + 1
  | .map entries => uptoBulkEntries entries + 1
  | .held _ => 1
def uptoBulkAll {H : Type} : List (DataW H) → Nat
  | [] => 0
  | d :: r => uptoBulk d + uptoBulkAll r
def uptoBulkEntries {H : Type} : List (Lit × DataW H) → Nat
  | [] => 0
  | x :: r => uptoBulkEntry x + uptoBulkEntries r
def uptoBulkEntry {H : Type} : Lit × DataW H → Nat
  | (.string bytes, d) => bytes.length + uptoBulk d + 1
  | (_, d) => uptoBulk d + 1
 end
def uptoSmall : (H : Type) → List (DataW H) → Bool := fun _ ds => decide (uptoBulkAll ds ≤ 1048576)
def OpenSpec.upto (s : _root_.Go.ChangeSpec) : _root_.Go.OpenSpec := { _root_.Go.OpenSpec.ofChange s with cond := some uptoSmall }

/-- 'relucertlaw27.ProgramValid', WHERE WHAT IT READS IS OF BULK AT MOST 1048576: true; the input reads as it did. -/
def programValidUptoRow : OpenClaim := { program := "ytledagemcknlcaa", sum := "2ba13ea8c3dd565f1702826dfae8cb19658c355dc73d672794c103efe6e0a07f", func := "relucert/relucertlaw27.ProgramValid", spec := "programValid", unfollowed := true, recurses := true, apart := false, narrowed := true }
def ProgramValidUptoSaid : Prop := programValidUptoRow.holds Try.pinned (OpenSpec.upto programValidSpec)

/-- 'relucertlaw27.ProgramPoints', WHERE WHAT IT READS IS OF BULK AT MOST 1048576: true; the input reads as it did. -/
def programPointsUptoRow : OpenClaim := { program := "ytledagemcknlcaa", sum := "2ba13ea8c3dd565f1702826dfae8cb19658c355dc73d672794c103efe6e0a07f", func := "relucert/relucertlaw27.ProgramPoints", spec := "programPoints", unfollowed := true, recurses := true, apart := false, narrowed := true }
def ProgramPointsUptoSaid : Prop := programPointsUptoRow.holds Try.pinned (OpenSpec.upto programPointsSpec)

/-- 'relucertlaw27.ProgramWeakDuality', WHERE WHAT IT READS IS OF BULK AT MOST 1048576: true; the input reads as it did. -/
def programWeakDualityUptoRow : OpenClaim := { program := "ytledagemcknlcaa", sum := "2ba13ea8c3dd565f1702826dfae8cb19658c355dc73d672794c103efe6e0a07f", func := "relucert/relucertlaw27.ProgramWeakDuality", spec := "programWeakDuality", unfollowed := true, recurses := true, apart := false, narrowed := true }
def ProgramWeakDualityUptoSaid : Prop := programWeakDualityUptoRow.holds Try.pinned (OpenSpec.upto programWeakDualitySpec)

end Rows
end Go.Proofs.Ytledagemcknlcaa
