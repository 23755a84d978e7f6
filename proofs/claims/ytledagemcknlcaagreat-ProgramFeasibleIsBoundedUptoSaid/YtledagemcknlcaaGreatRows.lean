/-
  No cell of these rows narrows 'for every input' (looked for: loops, veiled, ifaces, maps, wideKeys, modest, calm, conditions, laid).
  DERIVED. THE GIVEN ROWS OF THIS SEAT. 3 by the template 'for every input the law returns true; each argument reads behind the call as it read before'; 0 by the template 'total and deterministic' (their statements: YtledagemcknlcaaGreatTotals.lean).
  GIVEN WITH THE SEED: the statements are not yours to turn. If you find one false, say at which input.
  Laid BY PROGRAM, IN A SANDBOX (cutbox-rows.mjs): the forced cells as the released guide's own fill.sh prints them over the translation f4464ed4516be3a0… (all of the seat's roots in one cut). By AI agents, Wed Nov 11 2026. No macro, syntax, notation, axiom, sorry.
-/
import Derived.Test.YtledagemcknlcaaGreatChecked
import GoSem.Claim
import GoSem.ClaimJoined
import GoSem.ClaimMapViews
import Derived.JoinedTies
import Derived.KernelRfl
namespace Go.Proofs.YtledagemcknlcaaGreat
/- THE CELL 'sum', in the pinned program and in every row, IS THE sha256 OF THE DUMP (.gsa) THAT YtledagemcknlcaaGreatProg.lean LOADS. Nothing in Lean hashes anything: it is a label: what it is worth is what the hold of that sum in a sandbox is worth. -/
noncomputable def Tryz.pinned : Pinned := { name := "ytledagemcknlcaagreat", sum := "f4464ed4516be3a0920d50598085689dec0f6f68a1f1b6159d26adf446c067b2", checked := Tryz.checked }
namespace Rows
def none {H : Type} : Left H := { results := [], args := [] }

/-- 'relucertlaw27.ProgramDualMatchesReference': WHATEVER THE INPUT: true; the input reads as it did. -/
def programDualMatchesReferenceSpec : ChangeSpec := { name := "programDualMatchesReference", fn := fun _ => fun
  | [d] => { results := [.lit (.bool true)], args := [d] }
  | _ => none }
def programDualMatchesReferenceRow : OpenClaim := { program := "ytledagemcknlcaagreat", sum := "f4464ed4516be3a0920d50598085689dec0f6f68a1f1b6159d26adf446c067b2", func := "relucert/relucertlaw27.ProgramDualMatchesReference", spec := "programDualMatchesReference", unfollowed := true, recurses := true, apart := false }
def ProgramDualMatchesReferenceSaid : Prop := programDualMatchesReferenceRow.holds Tryz.pinned (OpenSpec.ofChange programDualMatchesReferenceSpec)

/-- ITS FALSE NEIGHBOUR: 'it returns false'. Refute it at one input. -/
def programDualMatchesReferenceWrong : ChangeSpec := { name := "programDualMatchesReference", fn := fun _ => fun
  | [d] => { results := [.lit (.bool false)], args := [d] }
  | _ => none }
def ProgramDualMatchesReferenceWrongFalsely : Prop := programDualMatchesReferenceRow.holds Tryz.pinned (OpenSpec.ofChange programDualMatchesReferenceWrong)

/-- 'relucertlaw27.ProgramStrongDuality': WHATEVER THE INPUT: true; the input reads as it did. -/
def programStrongDualitySpec : ChangeSpec := { name := "programStrongDuality", fn := fun _ => fun
  | [d] => { results := [.lit (.bool true)], args := [d] }
  | _ => none }
def programStrongDualityRow : OpenClaim := { program := "ytledagemcknlcaagreat", sum := "f4464ed4516be3a0920d50598085689dec0f6f68a1f1b6159d26adf446c067b2", func := "relucert/relucertlaw27.ProgramStrongDuality", spec := "programStrongDuality", unfollowed := true, recurses := true, apart := false }
def ProgramStrongDualitySaid : Prop := programStrongDualityRow.holds Tryz.pinned (OpenSpec.ofChange programStrongDualitySpec)

/-- ITS FALSE NEIGHBOUR: 'it returns false'. Refute it at one input. -/
def programStrongDualityWrong : ChangeSpec := { name := "programStrongDuality", fn := fun _ => fun
  | [d] => { results := [.lit (.bool false)], args := [d] }
  | _ => none }
def ProgramStrongDualityWrongFalsely : Prop := programStrongDualityRow.holds Tryz.pinned (OpenSpec.ofChange programStrongDualityWrong)

/-- 'relucertlaw27.ProgramFeasibleIsBounded': WHATEVER THE INPUT: true; the input reads as it did. -/
def programFeasibleIsBoundedSpec : ChangeSpec := { name := "programFeasibleIsBounded", fn := fun _ => fun
  | [d1, d2] => { results := [.lit (.bool true)], args := [d1, d2] }
  | _ => none }
def programFeasibleIsBoundedRow : OpenClaim := { program := "ytledagemcknlcaagreat", sum := "f4464ed4516be3a0920d50598085689dec0f6f68a1f1b6159d26adf446c067b2", func := "relucert/relucertlaw27.ProgramFeasibleIsBounded", spec := "programFeasibleIsBounded", unfollowed := true, recurses := true, apart := false }
def ProgramFeasibleIsBoundedSaid : Prop := programFeasibleIsBoundedRow.holds Tryz.pinned (OpenSpec.ofChange programFeasibleIsBoundedSpec)

/-- ITS FALSE NEIGHBOUR: 'it returns false'. Refute it at one input. -/
def programFeasibleIsBoundedWrong : ChangeSpec := { name := "programFeasibleIsBounded", fn := fun _ => fun
  | [d1, d2] => { results := [.lit (.bool false)], args := [d1, d2] }
  | _ => none }
def ProgramFeasibleIsBoundedWrongFalsely : Prop := programFeasibleIsBoundedRow.holds Tryz.pinned (OpenSpec.ofChange programFeasibleIsBoundedWrong)

/- THE SECOND FORM. 'bulk': how many values and letters a reading holds, each counted each time it is reached (what is shared counts as often as it is met; a slice's spare places count too). A statement '..UptoSaid' is the law's where the arguments, and the package variables that the reading takes, are together of bulk at most 1048576: NARROWER than '..Said'. Prove '..Said' where nothing that the law and all that it calls make is longer than what came in: it says more and counts as full. Else prove '..UptoSaid'. A law counts once. -/
mutual
def uptoBulk {H : Type} : DataW H → Nat
  | .lit (.string bytes) => bytes.length + 1
  | .lit _ => 1
  | .nil => 1
  | .ptr d => uptoBulk d + 1
  | .slice elems spare => uptoBulkAll elems + uptoBulkAll spare + 1
  | .agg parts => uptoBulkAll parts + 1
  | .iface _ d => uptoBulk d + 1
  | .map entries => uptoBulkEntries entries + 1
  | .held _ => 1
def uptoBulkAll {H : Type} : List (DataW H) → Nat
  | [] => 0
  | d :: r => uptoBulk d + uptoBulkAll r
def uptoBulkEntries {H : Type} : List (Lit × DataW H) → Nat
  | [] => 0
  | x :: r => uptoBulkEntry x + uptoBulkEntries r
def uptoBulkEntry {H : Type} : Lit × DataW H → Nat
  | (.string bytes, d) => bytes.length + uptoBulk d + 1
  | (_, d) => uptoBulk d + 1
 end
def uptoSmall : (H : Type) → List (DataW H) → Bool := fun _ ds => decide (uptoBulkAll ds ≤ 1048576)
def OpenSpec.upto (s : _root_.Go.ChangeSpec) : _root_.Go.OpenSpec := { _root_.Go.OpenSpec.ofChange s with cond := some uptoSmall }

/-- 'relucertlaw27.ProgramDualMatchesReference', WHERE WHAT IT READS IS OF BULK AT MOST 1048576: true; the input reads as it did. -/
def programDualMatchesReferenceUptoRow : OpenClaim := { program := "ytledagemcknlcaagreat", sum := "f4464ed4516be3a0920d50598085689dec0f6f68a1f1b6159d26adf446c067b2", func := "relucert/relucertlaw27.ProgramDualMatchesReference", spec := "programDualMatchesReference", unfollowed := true, recurses := true, apart := false, narrowed := true }
def ProgramDualMatchesReferenceUptoSaid : Prop := programDualMatchesReferenceUptoRow.holds Tryz.pinned (OpenSpec.upto programDualMatchesReferenceSpec)

/-- 'relucertlaw27.ProgramStrongDuality', WHERE WHAT IT READS IS OF BULK AT MOST 1048576: true; the input reads as it did. -/
def programStrongDualityUptoRow : OpenClaim := { program := "ytledagemcknlcaagreat", sum := "f4464ed4516be3a0920d50598085689dec0f6f68a1f1b6159d26adf446c067b2", func := "relucert/relucertlaw27.ProgramStrongDuality", spec := "programStrongDuality", unfollowed := true, recurses := true, apart := false, narrowed := true }
def ProgramStrongDualityUptoSaid : Prop := programStrongDualityUptoRow.holds Tryz.pinned (OpenSpec.upto programStrongDualitySpec)

/-- 'relucertlaw27.ProgramFeasibleIsBounded', WHERE WHAT IT READS IS OF BULK AT MOST 1048576: true; the input reads as it did. -/
def programFeasibleIsBoundedUptoRow : OpenClaim := { program := "ytledagemcknlcaagreat", sum := "f4464ed4516be3a0920d50598085689dec0f6f68a1f1b6159d26adf446c067b2", func := "relucert/relucertlaw27.ProgramFeasibleIsBounded", spec := "programFeasibleIsBounded", unfollowed := true, recurses := true, apart := false, narrowed := true }
def ProgramFeasibleIsBoundedUptoSaid : Prop := programFeasibleIsBoundedUptoRow.holds Tryz.pinned (OpenSpec.upto programFeasibleIsBoundedSpec)

end Rows
end Go.Proofs.YtledagemcknlcaaGreat
