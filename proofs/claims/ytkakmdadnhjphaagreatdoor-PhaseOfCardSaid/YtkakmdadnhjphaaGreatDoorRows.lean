/-
  NARROWER THAN 'FOR EVERY INPUT', by the rows' own cells (each row's printed sentence says how): PhaseOf: laid · ProgramText: laid · FourierNormal: laid · FourierEliminateMatchesReference: laid · FourierProjects: laid · FourierFeasible: laid · FourierMinMatchesReference: laid · FourierIsSimplex: laid · PhaseText: laid · PhaseParse: laid.
  DERIVED. THE GIVEN ROWS OF THIS SEAT. 10 by the template 'for every input the law returns true; each argument reads behind the call as it read before'; 0 by the template 'total and deterministic' (their statements: YtkakmdadnhjphaaGreatDoorTotals.lean).
  GIVEN WITH THE SEED: the statements are not yours to turn. If you find one false, say at which input.
  Laid BY PROGRAM, IN A SANDBOX (cutbox-rows.mjs): the forced cells as the released guide's own fill.sh prints them over the translation 78bd262b4e273360… (all of the seat's roots in one cut). By AI agents, Wed Nov 11 2026. No macro, syntax, notation, axiom, sorry.
-/
import Derived.Test.YtkakmdadnhjphaaGreatDoorChecked
import GoSem.PinnedTables
import GoSem.Claim
import GoSem.ClaimJoined
import GoSem.ClaimMapViews
import Derived.JoinedTies
import Derived.KernelRfl
namespace Go.Proofs.YtkakmdadnhjphaaGreatDoor
/- THE CELL 'sum', in the pinned program and in every row, IS THE sha256 OF THE DUMP (.gsa) THAT YtkakmdadnhjphaaGreatDoorProg.lean LOADS. Nothing in Lean hashes anything: it is a label: what it is worth is what the hold of that sum in a sandbox is worth. -/
noncomputable def Tryz.pinned : Pinned := { name := "ytkakmdadnhjphaagreatdoor", sum := "78bd262b4e2733600515bc103e1266cfb8f77640279b9f7e4efa0f7cfed6ad62", checked := Tryz.checked }
namespace Rows
def none {H : Type} : Left H := { results := [], args := [] }

/- WHAT THE LISTED PACKAGE-LEVEL VARIABLES READ AS WHEN THE CALL BEGINS. Each datum BY PROGRAM (the guide's laid-datum.mjs) off the statement by which the dump's own 'gosem.cut.vars' lays the variable. In a bare row this is a premise. The card (YtkakmdadnhjphaaGreatDoorCards.lean) ties it to the program's text. -/
def laid_math_bits_deBruijn32tab {H : Type} : DataW H := .agg [.lit (.int .u8 0), .lit (.int .u8 1), .lit (.int .u8 28), .lit (.int .u8 2), .lit (.int .u8 29), .lit (.int .u8 14), .lit (.int .u8 24), .lit (.int .u8 3), .lit (.int .u8 30), .lit (.int .u8 22), .lit (.int .u8 20), .lit (.int .u8 15), .lit (.int .u8 25), .lit (.int .u8 17), .lit (.int .u8 4), .lit (.int .u8 8), .lit (.int .u8 31), .lit (.int .u8 27), .lit (.int .u8 13), .lit (.int .u8 23), .lit (.int .u8 21), .lit (.int .u8 19), .lit (.int .u8 16), .lit (.int .u8 7), .lit (.int .u8 26), .lit (.int .u8 12), .lit (.int .u8 18), .lit (.int .u8 6), .lit (.int .u8 11), .lit (.int .u8 5), .lit (.int .u8 10), .lit (.int .u8 9)]
def laid_math_bits_deBruijn64tab {H : Type} : DataW H := .agg [.lit (.int .u8 0), .lit (.int .u8 1), .lit (.int .u8 56), .lit (.int .u8 2), .lit (.int .u8 57), .lit (.int .u8 49), .lit (.int .u8 28), .lit (.int .u8 3), .lit (.int .u8 61), .lit (.int .u8 58), .lit (.int .u8 42), .lit (.int .u8 50), .lit (.int .u8 38), .lit (.int .u8 29), .lit (.int .u8 17), .lit (.int .u8 4), .lit (.int .u8 62), .lit (.int .u8 47), .lit (.int .u8 59), .lit (.int .u8 36), .lit (.int .u8 45), .lit (.int .u8 43), .lit (.int .u8 51), .lit (.int .u8 22), .lit (.int .u8 53), .lit (.int .u8 39), .lit (.int .u8 33), .lit (.int .u8 30), .lit (.int .u8 24), .lit (.int .u8 18), .lit (.int .u8 12), .lit (.int .u8 5), .lit (.int .u8 63), .lit (.int .u8 55), .lit (.int .u8 48), .lit (.int .u8 27), .lit (.int .u8 60), .lit (.int .u8 41), .lit (.int .u8 37), .lit (.int .u8 16), .lit (.int .u8 46), .lit (.int .u8 35), .lit (.int .u8 44), .lit (.int .u8 21), .lit (.int .u8 52), .lit (.int .u8 32), .lit (.int .u8 23), .lit (.int .u8 11), .lit (.int .u8 54), .lit (.int .u8 26), .lit (.int .u8 40), .lit (.int .u8 15), .lit (.int .u8 34), .lit (.int .u8 20), .lit (.int .u8 31), .lit (.int .u8 10), .lit (.int .u8 25), .lit (.int .u8 14), .lit (.int .u8 19), .lit (.int .u8 9), .lit (.int .u8 13), .lit (.int .u8 8), .lit (.int .u8 7), .lit (.int .u8 6)]
def laid_internal_strconv_uint64pow10 {H : Type} : DataW H := .agg [.lit (.int .u64 1), .lit (.int .u64 10), .lit (.int .u64 100), .lit (.int .u64 1000), .lit (.int .u64 10000), .lit (.int .u64 100000), .lit (.int .u64 1000000), .lit (.int .u64 10000000), .lit (.int .u64 100000000), .lit (.int .u64 1000000000), .lit (.int .u64 10000000000), .lit (.int .u64 100000000000), .lit (.int .u64 1000000000000), .lit (.int .u64 10000000000000), .lit (.int .u64 100000000000000), .lit (.int .u64 1000000000000000), .lit (.int .u64 10000000000000000), .lit (.int .u64 100000000000000000), .lit (.int .u64 1000000000000000000), .lit (.int .u64 10000000000000000000)]
def laid_relucert_phase_opposites {H : Type} : DataW H := .agg [.lit (.int .i64 0), .lit (.int .i64 2), .lit (.int .i64 1), .lit (.int .i64 4), .lit (.int .i64 3)]
def laid_unicode_utf8_acceptRanges {H : Type} : DataW H := .agg [.agg [.lit (.int .u8 128), .lit (.int .u8 191)], .agg [.lit (.int .u8 160), .lit (.int .u8 191)], .agg [.lit (.int .u8 128), .lit (.int .u8 159)], .agg [.lit (.int .u8 144), .lit (.int .u8 191)], .agg [.lit (.int .u8 128), .lit (.int .u8 143)], .agg [.lit (.int .u8 0), .lit (.int .u8 0)], .agg [.lit (.int .u8 0), .lit (.int .u8 0)], .agg [.lit (.int .u8 0), .lit (.int .u8 0)], .agg [.lit (.int .u8 0), .lit (.int .u8 0)], .agg [.lit (.int .u8 0), .lit (.int .u8 0)], .agg [.lit (.int .u8 0), .lit (.int .u8 0)], .agg [.lit (.int .u8 0), .lit (.int .u8 0)], .agg [.lit (.int .u8 0), .lit (.int .u8 0)], .agg [.lit (.int .u8 0), .lit (.int .u8 0)], .agg [.lit (.int .u8 0), .lit (.int .u8 0)], .agg [.lit (.int .u8 0), .lit (.int .u8 0)]]
def laid_strconv_ErrRange {H : Type} : DataW H := .iface "*errors.errorString" (.ptr (.agg [.lit (.string [118, 97, 108, 117, 101, 32, 111, 117, 116, 32, 111, 102, 32, 114, 97, 110, 103, 101])]))
def laid_strconv_ErrSyntax {H : Type} : DataW H := .iface "*errors.errorString" (.ptr (.agg [.lit (.string [105, 110, 118, 97, 108, 105, 100, 32, 115, 121, 110, 116, 97, 120])]))
/-- One of Go's own tables, pinned by name: the form's constant. -/
def laid_unicode_utf8_first : DataW Unit := Go.Pinned.utf8First

/-- 'relucertlaw34.PhaseOf': WHATEVER THE INPUT: true; the input reads as it did. -/
def phaseOfSpec : ChangeSpec := { name := "phaseOf", fn := fun _ => fun
  | [d1, d2] => { results := [.lit (.bool true)], args := [d1, d2] }
  | _ => none }
def phaseOfRow : OpenClaim := { program := "ytkakmdadnhjphaagreatdoor", sum := "78bd262b4e2733600515bc103e1266cfb8f77640279b9f7e4efa0f7cfed6ad62", func := "relucert/relucertlaw34.PhaseOf", spec := "phaseOf", unfollowed := true, recurses := true, named := ["relucert/phase.opposites", "internal/strconv.uint64pow10", "math/bits.deBruijn32tab", "math/bits.deBruijn64tab"], apart := false, laid := [("math/bits.deBruijn32tab", laid_math_bits_deBruijn32tab), ("math/bits.deBruijn64tab", laid_math_bits_deBruijn64tab), ("internal/strconv.uint64pow10", laid_internal_strconv_uint64pow10), ("relucert/phase.opposites", laid_relucert_phase_opposites)] }
def PhaseOfSaid : Prop := phaseOfRow.holds Tryz.pinned (OpenSpec.ofChange phaseOfSpec)

/-- ITS FALSE NEIGHBOUR: 'it returns false'. Refute it at one input. -/
def phaseOfWrong : ChangeSpec := { name := "phaseOf", fn := fun _ => fun
  | [d1, d2] => { results := [.lit (.bool false)], args := [d1, d2] }
  | _ => none }
def PhaseOfWrongFalsely : Prop := phaseOfRow.holds Tryz.pinned (OpenSpec.ofChange phaseOfWrong)

/-- 'relucertlaw27.ProgramText': WHATEVER THE INPUT: true; the input reads as it did. -/
def programTextSpec : ChangeSpec := { name := "programText", fn := fun _ => fun
  | [d] => { results := [.lit (.bool true)], args := [d] }
  | _ => none }
def programTextRow : OpenClaim := { program := "ytkakmdadnhjphaagreatdoor", sum := "78bd262b4e2733600515bc103e1266cfb8f77640279b9f7e4efa0f7cfed6ad62", func := "relucert/relucertlaw27.ProgramText", spec := "programText", inPlace := ["internal/abi.NoEscape", "internal/bytealg.MakeNoZero"], unfollowed := true, recurses := true, named := ["internal/strconv.uint64pow10", "math/bits.deBruijn32tab", "math/bits.deBruijn64tab"], apart := false, laid := [("math/bits.deBruijn32tab", laid_math_bits_deBruijn32tab), ("math/bits.deBruijn64tab", laid_math_bits_deBruijn64tab), ("internal/strconv.uint64pow10", laid_internal_strconv_uint64pow10)] }
def ProgramTextSaid : Prop := programTextRow.holds Tryz.pinned (OpenSpec.ofChange programTextSpec)

/-- ITS FALSE NEIGHBOUR: 'it returns false'. Refute it at one input. -/
def programTextWrong : ChangeSpec := { name := "programText", fn := fun _ => fun
  | [d] => { results := [.lit (.bool false)], args := [d] }
  | _ => none }
def ProgramTextWrongFalsely : Prop := programTextRow.holds Tryz.pinned (OpenSpec.ofChange programTextWrong)

/-- 'relucertlaw31.FourierNormal': WHATEVER THE INPUT: true; the input reads as it did. -/
def fourierNormalSpec : ChangeSpec := { name := "fourierNormal", fn := fun _ => fun
  | [d1, d2] => { results := [.lit (.bool true)], args := [d1, d2] }
  | _ => none }
def fourierNormalRow : OpenClaim := { program := "ytkakmdadnhjphaagreatdoor", sum := "78bd262b4e2733600515bc103e1266cfb8f77640279b9f7e4efa0f7cfed6ad62", func := "relucert/relucertlaw31.FourierNormal", spec := "fourierNormal", inPlace := ["internal/abi.NoEscape", "internal/bytealg.MakeNoZero"], unfollowed := true, recurses := true, named := ["internal/strconv.uint64pow10", "math/bits.deBruijn32tab", "math/bits.deBruijn64tab"], apart := false, laid := [("math/bits.deBruijn32tab", laid_math_bits_deBruijn32tab), ("math/bits.deBruijn64tab", laid_math_bits_deBruijn64tab), ("internal/strconv.uint64pow10", laid_internal_strconv_uint64pow10)] }
def FourierNormalSaid : Prop := fourierNormalRow.holds Tryz.pinned (OpenSpec.ofChange fourierNormalSpec)

/-- ITS FALSE NEIGHBOUR: 'it returns false'. Refute it at one input. -/
def fourierNormalWrong : ChangeSpec := { name := "fourierNormal", fn := fun _ => fun
  | [d1, d2] => { results := [.lit (.bool false)], args := [d1, d2] }
  | _ => none }
def FourierNormalWrongFalsely : Prop := fourierNormalRow.holds Tryz.pinned (OpenSpec.ofChange fourierNormalWrong)

/-- 'relucertlaw31.FourierEliminateMatchesReference': WHATEVER THE INPUT: true; the input reads as it did. -/
def fourierEliminateMatchesReferenceSpec : ChangeSpec := { name := "fourierEliminateMatchesReference", fn := fun _ => fun
  | [d1, d2] => { results := [.lit (.bool true)], args := [d1, d2] }
  | _ => none }
def fourierEliminateMatchesReferenceRow : OpenClaim := { program := "ytkakmdadnhjphaagreatdoor", sum := "78bd262b4e2733600515bc103e1266cfb8f77640279b9f7e4efa0f7cfed6ad62", func := "relucert/relucertlaw31.FourierEliminateMatchesReference", spec := "fourierEliminateMatchesReference", inPlace := ["internal/abi.NoEscape", "internal/bytealg.MakeNoZero"], unfollowed := true, recurses := true, named := ["internal/strconv.uint64pow10", "math/bits.deBruijn32tab", "math/bits.deBruijn64tab"], apart := false, laid := [("math/bits.deBruijn32tab", laid_math_bits_deBruijn32tab), ("math/bits.deBruijn64tab", laid_math_bits_deBruijn64tab), ("internal/strconv.uint64pow10", laid_internal_strconv_uint64pow10)] }
def FourierEliminateMatchesReferenceSaid : Prop := fourierEliminateMatchesReferenceRow.holds Tryz.pinned (OpenSpec.ofChange fourierEliminateMatchesReferenceSpec)

/-- ITS FALSE NEIGHBOUR: 'it returns false'. Refute it at one input. -/
def fourierEliminateMatchesReferenceWrong : ChangeSpec := { name := "fourierEliminateMatchesReference", fn := fun _ => fun
  | [d1, d2] => { results := [.lit (.bool false)], args := [d1, d2] }
  | _ => none }
def FourierEliminateMatchesReferenceWrongFalsely : Prop := fourierEliminateMatchesReferenceRow.holds Tryz.pinned (OpenSpec.ofChange fourierEliminateMatchesReferenceWrong)

/-- 'relucertlaw31.FourierProjects': WHATEVER THE INPUT: true; the input reads as it did. -/
def fourierProjectsSpec : ChangeSpec := { name := "fourierProjects", fn := fun _ => fun
  | [d1, d2, d3] => { results := [.lit (.bool true)], args := [d1, d2, d3] }
  | _ => none }
def fourierProjectsRow : OpenClaim := { program := "ytkakmdadnhjphaagreatdoor", sum := "78bd262b4e2733600515bc103e1266cfb8f77640279b9f7e4efa0f7cfed6ad62", func := "relucert/relucertlaw31.FourierProjects", spec := "fourierProjects", inPlace := ["internal/abi.NoEscape", "internal/bytealg.MakeNoZero"], unfollowed := true, recurses := true, named := ["internal/strconv.uint64pow10", "math/bits.deBruijn32tab", "math/bits.deBruijn64tab"], apart := false, laid := [("math/bits.deBruijn32tab", laid_math_bits_deBruijn32tab), ("math/bits.deBruijn64tab", laid_math_bits_deBruijn64tab), ("internal/strconv.uint64pow10", laid_internal_strconv_uint64pow10)] }
def FourierProjectsSaid : Prop := fourierProjectsRow.holds Tryz.pinned (OpenSpec.ofChange fourierProjectsSpec)

/-- ITS FALSE NEIGHBOUR: 'it returns false'. Refute it at one input. -/
def fourierProjectsWrong : ChangeSpec := { name := "fourierProjects", fn := fun _ => fun
  | [d1, d2, d3] => { results := [.lit (.bool false)], args := [d1, d2, d3] }
  | _ => none }
def FourierProjectsWrongFalsely : Prop := fourierProjectsRow.holds Tryz.pinned (OpenSpec.ofChange fourierProjectsWrong)

/-- 'relucertlaw31.FourierFeasible': WHATEVER THE INPUT: true; the input reads as it did. -/
def fourierFeasibleSpec : ChangeSpec := { name := "fourierFeasible", fn := fun _ => fun
  | [d1, d2] => { results := [.lit (.bool true)], args := [d1, d2] }
  | _ => none }
def fourierFeasibleRow : OpenClaim := { program := "ytkakmdadnhjphaagreatdoor", sum := "78bd262b4e2733600515bc103e1266cfb8f77640279b9f7e4efa0f7cfed6ad62", func := "relucert/relucertlaw31.FourierFeasible", spec := "fourierFeasible", inPlace := ["internal/abi.NoEscape", "internal/bytealg.MakeNoZero"], unfollowed := true, recurses := true, named := ["internal/strconv.uint64pow10", "math/bits.deBruijn32tab", "math/bits.deBruijn64tab"], apart := false, laid := [("math/bits.deBruijn32tab", laid_math_bits_deBruijn32tab), ("math/bits.deBruijn64tab", laid_math_bits_deBruijn64tab), ("internal/strconv.uint64pow10", laid_internal_strconv_uint64pow10)] }
def FourierFeasibleSaid : Prop := fourierFeasibleRow.holds Tryz.pinned (OpenSpec.ofChange fourierFeasibleSpec)

/-- ITS FALSE NEIGHBOUR: 'it returns false'. Refute it at one input. -/
def fourierFeasibleWrong : ChangeSpec := { name := "fourierFeasible", fn := fun _ => fun
  | [d1, d2] => { results := [.lit (.bool false)], args := [d1, d2] }
  | _ => none }
def FourierFeasibleWrongFalsely : Prop := fourierFeasibleRow.holds Tryz.pinned (OpenSpec.ofChange fourierFeasibleWrong)

/-- 'relucertlaw31.FourierMinMatchesReference': WHATEVER THE INPUT: true; the input reads as it did. -/
def fourierMinMatchesReferenceSpec : ChangeSpec := { name := "fourierMinMatchesReference", fn := fun _ => fun
  | [d1, d2, d3] => { results := [.lit (.bool true)], args := [d1, d2, d3] }
  | _ => none }
def fourierMinMatchesReferenceRow : OpenClaim := { program := "ytkakmdadnhjphaagreatdoor", sum := "78bd262b4e2733600515bc103e1266cfb8f77640279b9f7e4efa0f7cfed6ad62", func := "relucert/relucertlaw31.FourierMinMatchesReference", spec := "fourierMinMatchesReference", inPlace := ["internal/abi.NoEscape", "internal/bytealg.MakeNoZero"], unfollowed := true, recurses := true, named := ["internal/strconv.uint64pow10", "math/bits.deBruijn32tab", "math/bits.deBruijn64tab"], apart := false, laid := [("math/bits.deBruijn32tab", laid_math_bits_deBruijn32tab), ("math/bits.deBruijn64tab", laid_math_bits_deBruijn64tab), ("internal/strconv.uint64pow10", laid_internal_strconv_uint64pow10)] }
def FourierMinMatchesReferenceSaid : Prop := fourierMinMatchesReferenceRow.holds Tryz.pinned (OpenSpec.ofChange fourierMinMatchesReferenceSpec)

/-- ITS FALSE NEIGHBOUR: 'it returns false'. Refute it at one input. -/
def fourierMinMatchesReferenceWrong : ChangeSpec := { name := "fourierMinMatchesReference", fn := fun _ => fun
  | [d1, d2, d3] => { results := [.lit (.bool false)], args := [d1, d2, d3] }
  | _ => none }
def FourierMinMatchesReferenceWrongFalsely : Prop := fourierMinMatchesReferenceRow.holds Tryz.pinned (OpenSpec.ofChange fourierMinMatchesReferenceWrong)

/-- 'relucertlaw31.FourierIsSimplex': WHATEVER THE INPUT: true; the input reads as it did. -/
def fourierIsSimplexSpec : ChangeSpec := { name := "fourierIsSimplex", fn := fun _ => fun
  | [d] => { results := [.lit (.bool true)], args := [d] }
  | _ => none }
def fourierIsSimplexRow : OpenClaim := { program := "ytkakmdadnhjphaagreatdoor", sum := "78bd262b4e2733600515bc103e1266cfb8f77640279b9f7e4efa0f7cfed6ad62", func := "relucert/relucertlaw31.FourierIsSimplex", spec := "fourierIsSimplex", inPlace := ["internal/abi.NoEscape", "internal/bytealg.MakeNoZero", "slices.overlaps[relucert/api.Rat]"], unfollowed := true, recurses := true, named := ["internal/strconv.uint64pow10", "math/bits.deBruijn32tab", "math/bits.deBruijn64tab"], apart := false, laid := [("math/bits.deBruijn32tab", laid_math_bits_deBruijn32tab), ("math/bits.deBruijn64tab", laid_math_bits_deBruijn64tab), ("internal/strconv.uint64pow10", laid_internal_strconv_uint64pow10)] }
def FourierIsSimplexSaid : Prop := fourierIsSimplexRow.holds Tryz.pinned (OpenSpec.ofChange fourierIsSimplexSpec)

/-- ITS FALSE NEIGHBOUR: 'it returns false'. Refute it at one input. -/
def fourierIsSimplexWrong : ChangeSpec := { name := "fourierIsSimplex", fn := fun _ => fun
  | [d] => { results := [.lit (.bool false)], args := [d] }
  | _ => none }
def FourierIsSimplexWrongFalsely : Prop := fourierIsSimplexRow.holds Tryz.pinned (OpenSpec.ofChange fourierIsSimplexWrong)

/-- 'relucertlaw34.PhaseText': WHATEVER THE INPUT: true; the input reads as it did. -/
def phaseTextSpec : ChangeSpec := { name := "phaseText", fn := fun _ => fun
  | [d] => { results := [.lit (.bool true)], args := [d] }
  | _ => none }
def phaseTextRow : OpenClaim := { program := "ytkakmdadnhjphaagreatdoor", sum := "78bd262b4e2733600515bc103e1266cfb8f77640279b9f7e4efa0f7cfed6ad62", func := "relucert/relucertlaw34.PhaseText", spec := "phaseText", inPlace := ["internal/bytealg.CountString", "internal/bytealg.IndexByteString", "internal/bytealg.IndexString", "internal/abi.NoEscape", "internal/bytealg.MakeNoZero"], unfollowed := true, recurses := true, named := ["relucert/phase.opposites", "internal/strconv.uint64pow10", "math/bits.deBruijn32tab", "math/bits.deBruijn64tab", "unicode/utf8.first", "unicode/utf8.acceptRanges", "internal/bytealg.MaxLen", "strconv.ErrSyntax", "strconv.ErrRange"], apart := false, laid := [("math/bits.deBruijn32tab", laid_math_bits_deBruijn32tab), ("math/bits.deBruijn64tab", laid_math_bits_deBruijn64tab), ("internal/strconv.uint64pow10", laid_internal_strconv_uint64pow10), ("unicode/utf8.acceptRanges", laid_unicode_utf8_acceptRanges), ("strconv.ErrRange", laid_strconv_ErrRange), ("strconv.ErrSyntax", laid_strconv_ErrSyntax), ("relucert/phase.opposites", laid_relucert_phase_opposites), ("unicode/utf8.first", laid_unicode_utf8_first)] }
def PhaseTextSaid : Prop := phaseTextRow.holds Tryz.pinned (OpenSpec.ofChange phaseTextSpec)

/-- ITS FALSE NEIGHBOUR: 'it returns false'. Refute it at one input. -/
def phaseTextWrong : ChangeSpec := { name := "phaseText", fn := fun _ => fun
  | [d] => { results := [.lit (.bool false)], args := [d] }
  | _ => none }
def PhaseTextWrongFalsely : Prop := phaseTextRow.holds Tryz.pinned (OpenSpec.ofChange phaseTextWrong)

/-- 'relucertlaw34.PhaseParse': WHATEVER THE INPUT: true; the input reads as it did. -/
def phaseParseSpec : ChangeSpec := { name := "phaseParse", fn := fun _ => fun
  | [d] => { results := [.lit (.bool true)], args := [d] }
  | _ => none }
def phaseParseRow : OpenClaim := { program := "ytkakmdadnhjphaagreatdoor", sum := "78bd262b4e2733600515bc103e1266cfb8f77640279b9f7e4efa0f7cfed6ad62", func := "relucert/relucertlaw34.PhaseParse", spec := "phaseParse", inPlace := ["internal/bytealg.CountString", "internal/bytealg.IndexByteString", "internal/bytealg.IndexString", "internal/abi.NoEscape", "internal/bytealg.MakeNoZero"], unfollowed := true, recurses := true, named := ["relucert/phase.opposites", "internal/strconv.uint64pow10", "math/bits.deBruijn32tab", "math/bits.deBruijn64tab", "unicode/utf8.first", "unicode/utf8.acceptRanges", "internal/bytealg.MaxLen", "strconv.ErrSyntax", "strconv.ErrRange"], apart := false, laid := [("math/bits.deBruijn32tab", laid_math_bits_deBruijn32tab), ("math/bits.deBruijn64tab", laid_math_bits_deBruijn64tab), ("internal/strconv.uint64pow10", laid_internal_strconv_uint64pow10), ("unicode/utf8.acceptRanges", laid_unicode_utf8_acceptRanges), ("strconv.ErrRange", laid_strconv_ErrRange), ("strconv.ErrSyntax", laid_strconv_ErrSyntax), ("relucert/phase.opposites", laid_relucert_phase_opposites), ("unicode/utf8.first", laid_unicode_utf8_first)] }
def PhaseParseSaid : Prop := phaseParseRow.holds Tryz.pinned (OpenSpec.ofChange phaseParseSpec)

/-- ITS FALSE NEIGHBOUR: 'it returns false'. Refute it at one input. -/
def phaseParseWrong : ChangeSpec := { name := "phaseParse", fn := fun _ => fun
  | [d] => { results := [.lit (.bool false)], args := [d] }
  | _ => none }
def PhaseParseWrongFalsely : Prop := phaseParseRow.holds Tryz.pinned (OpenSpec.ofChange phaseParseWrong)

/- THE SECOND FORM. 'bulk': how many values and letters a reading holds, each counted each time it is reached (what is shared counts as often as it is met; a slice's spare places count too). A statement '..UptoSaid' is the law's where the arguments, and the package variables that the reading takes, are together of bulk at most 1048576: NARROWER than '..Said'. Prove '..Said' where nothing that the law and all that it calls make is longer than what came in: it says more and counts as full. Else prove '..UptoSaid'. A law counts once. -/
mutual
def uptoBulk {H : Type} : DataW H → Nat
  | .lit (.string bytes) => bytes.length + 1
  | .lit _ => 1
  | .nil => 1
  | .ptr d => uptoBulk d + 1
  | .slice elems spare => uptoBulkAll elems + uptoBulkAll spare + 1
  | .agg parts => uptoBulkAll parts + 1
  | .iface _ d => uptoBulk d + 1
  | .map entries => uptoBulkEntries entries + 1
  | .held _ => 1
def uptoBulkAll {H : Type} : List (DataW H) → Nat
  | [] => 0
  | d :: r => uptoBulk d + uptoBulkAll r
def uptoBulkEntries {H : Type} : List (Lit × DataW H) → Nat
  | [] => 0
  | x :: r => uptoBulkEntry x + uptoBulkEntries r
def uptoBulkEntry {H : Type} : Lit × DataW H → Nat
  | (.string bytes, d) => bytes.length + uptoBulk d + 1
  | (_, d) => uptoBulk d + 1
 end
def uptoSmall : (H : Type) → List (DataW H) → Bool := fun _ ds => decide (uptoBulkAll ds ≤ 1048576)
def OpenSpec.upto (s : _root_.Go.ChangeSpec) : _root_.Go.OpenSpec := { _root_.Go.OpenSpec.ofChange s with cond := some uptoSmall }

/-- 'relucertlaw34.PhaseOf', WHERE WHAT IT READS IS OF BULK AT MOST 1048576: true; the input reads as it did. -/
def phaseOfUptoRow : OpenClaim := { program := "ytkakmdadnhjphaagreatdoor", sum := "78bd262b4e2733600515bc103e1266cfb8f77640279b9f7e4efa0f7cfed6ad62", func := "relucert/relucertlaw34.PhaseOf", spec := "phaseOf", unfollowed := true, recurses := true, named := ["relucert/phase.opposites", "internal/strconv.uint64pow10", "math/bits.deBruijn32tab", "math/bits.deBruijn64tab"], apart := false, laid := [("math/bits.deBruijn32tab", laid_math_bits_deBruijn32tab), ("math/bits.deBruijn64tab", laid_math_bits_deBruijn64tab), ("internal/strconv.uint64pow10", laid_internal_strconv_uint64pow10), ("relucert/phase.opposites", laid_relucert_phase_opposites)], narrowed := true }
def PhaseOfUptoSaid : Prop := phaseOfUptoRow.holds Tryz.pinned (OpenSpec.upto phaseOfSpec)

/-- 'relucertlaw27.ProgramText', WHERE WHAT IT READS IS OF BULK AT MOST 1048576: true; the input reads as it did. -/
def programTextUptoRow : OpenClaim := { program := "ytkakmdadnhjphaagreatdoor", sum := "78bd262b4e2733600515bc103e1266cfb8f77640279b9f7e4efa0f7cfed6ad62", func := "relucert/relucertlaw27.ProgramText", spec := "programText", inPlace := ["internal/abi.NoEscape", "internal/bytealg.MakeNoZero"], unfollowed := true, recurses := true, named := ["internal/strconv.uint64pow10", "math/bits.deBruijn32tab", "math/bits.deBruijn64tab"], apart := false, laid := [("math/bits.deBruijn32tab", laid_math_bits_deBruijn32tab), ("math/bits.deBruijn64tab", laid_math_bits_deBruijn64tab), ("internal/strconv.uint64pow10", laid_internal_strconv_uint64pow10)], narrowed := true }
def ProgramTextUptoSaid : Prop := programTextUptoRow.holds Tryz.pinned (OpenSpec.upto programTextSpec)

/-- 'relucertlaw31.FourierNormal', WHERE WHAT IT READS IS OF BULK AT MOST 1048576: true; the input reads as it did. -/
def fourierNormalUptoRow : OpenClaim := { program := "ytkakmdadnhjphaagreatdoor", sum := "78bd262b4e2733600515bc103e1266cfb8f77640279b9f7e4efa0f7cfed6ad62", func := "relucert/relucertlaw31.FourierNormal", spec := "fourierNormal", inPlace := ["internal/abi.NoEscape", "internal/bytealg.MakeNoZero"], unfollowed := true, recurses := true, named := ["internal/strconv.uint64pow10", "math/bits.deBruijn32tab", "math/bits.deBruijn64tab"], apart := false, laid := [("math/bits.deBruijn32tab", laid_math_bits_deBruijn32tab), ("math/bits.deBruijn64tab", laid_math_bits_deBruijn64tab), ("internal/strconv.uint64pow10", laid_internal_strconv_uint64pow10)], narrowed := true }
def FourierNormalUptoSaid : Prop := fourierNormalUptoRow.holds Tryz.pinned (OpenSpec.upto fourierNormalSpec)

/-- 'relucertlaw31.FourierEliminateMatchesReference', WHERE WHAT IT READS IS OF BULK AT MOST 1048576: true; the input reads as it did. -/
def fourierEliminateMatchesReferenceUptoRow : OpenClaim := { program := "ytkakmdadnhjphaagreatdoor", sum := "78bd262b4e2733600515bc103e1266cfb8f77640279b9f7e4efa0f7cfed6ad62", func := "relucert/relucertlaw31.FourierEliminateMatchesReference", spec := "fourierEliminateMatchesReference", inPlace := ["internal/abi.NoEscape", "internal/bytealg.MakeNoZero"], unfollowed := true, recurses := true, named := ["internal/strconv.uint64pow10", "math/bits.deBruijn32tab", "math/bits.deBruijn64tab"], apart := false, laid := [("math/bits.deBruijn32tab", laid_math_bits_deBruijn32tab), ("math/bits.deBruijn64tab", laid_math_bits_deBruijn64tab), ("internal/strconv.uint64pow10", laid_internal_strconv_uint64pow10)], narrowed := true }
def FourierEliminateMatchesReferenceUptoSaid : Prop := fourierEliminateMatchesReferenceUptoRow.holds Tryz.pinned (OpenSpec.upto fourierEliminateMatchesReferenceSpec)

/-- 'relucertlaw31.FourierProjects', WHERE WHAT IT READS IS OF BULK AT MOST 1048576: true; the input reads as it did. -/
def fourierProjectsUptoRow : OpenClaim := { program := "ytkakmdadnhjphaagreatdoor", sum := "78bd262b4e2733600515bc103e1266cfb8f77640279b9f7e4efa0f7cfed6ad62", func := "relucert/relucertlaw31.FourierProjects", spec := "fourierProjects", inPlace := ["internal/abi.NoEscape", "internal/bytealg.MakeNoZero"], unfollowed := true, recurses := true, named := ["internal/strconv.uint64pow10", "math/bits.deBruijn32tab", "math/bits.deBruijn64tab"], apart := false, laid := [("math/bits.deBruijn32tab", laid_math_bits_deBruijn32tab), ("math/bits.deBruijn64tab", laid_math_bits_deBruijn64tab), ("internal/strconv.uint64pow10", laid_internal_strconv_uint64pow10)], narrowed := true }
def FourierProjectsUptoSaid : Prop := fourierProjectsUptoRow.holds Tryz.pinned (OpenSpec.upto fourierProjectsSpec)

/-- 'relucertlaw31.FourierFeasible', WHERE WHAT IT READS IS OF BULK AT MOST 1048576: true; the input reads as it did. -/
def fourierFeasibleUptoRow : OpenClaim := { program := "ytkakmdadnhjphaagreatdoor", sum := "78bd262b4e2733600515bc103e1266cfb8f77640279b9f7e4efa0f7cfed6ad62", func := "relucert/relucertlaw31.FourierFeasible", spec := "fourierFeasible", inPlace := ["internal/abi.NoEscape", "internal/bytealg.MakeNoZero"], unfollowed := true, recurses := true, named := ["internal/strconv.uint64pow10", "math/bits.deBruijn32tab", "math/bits.deBruijn64tab"], apart := false, laid := [("math/bits.deBruijn32tab", laid_math_bits_deBruijn32tab), ("math/bits.deBruijn64tab", laid_math_bits_deBruijn64tab), ("internal/strconv.uint64pow10", laid_internal_strconv_uint64pow10)], narrowed := true }
def FourierFeasibleUptoSaid : Prop := fourierFeasibleUptoRow.holds Tryz.pinned (OpenSpec.upto fourierFeasibleSpec)

/-- 'relucertlaw31.FourierMinMatchesReference', WHERE WHAT IT READS IS OF BULK AT MOST 1048576: true; the input reads as it did. -/
def fourierMinMatchesReferenceUptoRow : OpenClaim := { program := "ytkakmdadnhjphaagreatdoor", sum := "78bd262b4e2733600515bc103e1266cfb8f77640279b9f7e4efa0f7cfed6ad62", func := "relucert/relucertlaw31.FourierMinMatchesReference", spec := "fourierMinMatchesReference", inPlace := ["internal/abi.NoEscape", "internal/bytealg.MakeNoZero"], unfollowed := true, recurses := true, named := ["internal/strconv.uint64pow10", "math/bits.deBruijn32tab", "math/bits.deBruijn64tab"], apart := false, laid := [("math/bits.deBruijn32tab", laid_math_bits_deBruijn32tab), ("math/bits.deBruijn64tab", laid_math_bits_deBruijn64tab), ("internal/strconv.uint64pow10", laid_internal_strconv_uint64pow10)], narrowed := true }
def FourierMinMatchesReferenceUptoSaid : Prop := fourierMinMatchesReferenceUptoRow.holds Tryz.pinned (OpenSpec.upto fourierMinMatchesReferenceSpec)

/-- 'relucertlaw31.FourierIsSimplex', WHERE WHAT IT READS IS OF BULK AT MOST 1048576: true; the input reads as it did. -/
def fourierIsSimplexUptoRow : OpenClaim := { program := "ytkakmdadnhjphaagreatdoor", sum := "78bd262b4e2733600515bc103e1266cfb8f77640279b9f7e4efa0f7cfed6ad62", func := "relucert/relucertlaw31.FourierIsSimplex", spec := "fourierIsSimplex", inPlace := ["internal/abi.NoEscape", "internal/bytealg.MakeNoZero", "slices.overlaps[relucert/api.Rat]"], unfollowed := true, recurses := true, named := ["internal/strconv.uint64pow10", "math/bits.deBruijn32tab", "math/bits.deBruijn64tab"], apart := false, laid := [("math/bits.deBruijn32tab", laid_math_bits_deBruijn32tab), ("math/bits.deBruijn64tab", laid_math_bits_deBruijn64tab), ("internal/strconv.uint64pow10", laid_internal_strconv_uint64pow10)], narrowed := true }
def FourierIsSimplexUptoSaid : Prop := fourierIsSimplexUptoRow.holds Tryz.pinned (OpenSpec.upto fourierIsSimplexSpec)

/-- 'relucertlaw34.PhaseText', WHERE WHAT IT READS IS OF BULK AT MOST 1048576: true; the input reads as it did. -/
def phaseTextUptoRow : OpenClaim := { program := "ytkakmdadnhjphaagreatdoor", sum := "78bd262b4e2733600515bc103e1266cfb8f77640279b9f7e4efa0f7cfed6ad62", func := "relucert/relucertlaw34.PhaseText", spec := "phaseText", inPlace := ["internal/bytealg.CountString", "internal/bytealg.IndexByteString", "internal/bytealg.IndexString", "internal/abi.NoEscape", "internal/bytealg.MakeNoZero"], unfollowed := true, recurses := true, named := ["relucert/phase.opposites", "internal/strconv.uint64pow10", "math/bits.deBruijn32tab", "math/bits.deBruijn64tab", "unicode/utf8.first", "unicode/utf8.acceptRanges", "internal/bytealg.MaxLen", "strconv.ErrSyntax", "strconv.ErrRange"], apart := false, laid := [("math/bits.deBruijn32tab", laid_math_bits_deBruijn32tab), ("math/bits.deBruijn64tab", laid_math_bits_deBruijn64tab), ("internal/strconv.uint64pow10", laid_internal_strconv_uint64pow10), ("unicode/utf8.acceptRanges", laid_unicode_utf8_acceptRanges), ("strconv.ErrRange", laid_strconv_ErrRange), ("strconv.ErrSyntax", laid_strconv_ErrSyntax), ("relucert/phase.opposites", laid_relucert_phase_opposites), ("unicode/utf8.first", laid_unicode_utf8_first)], narrowed := true }
def PhaseTextUptoSaid : Prop := phaseTextUptoRow.holds Tryz.pinned (OpenSpec.upto phaseTextSpec)

/-- 'relucertlaw34.PhaseParse', WHERE WHAT IT READS IS OF BULK AT MOST 1048576: true; the input reads as it did. -/
def phaseParseUptoRow : OpenClaim := { program := "ytkakmdadnhjphaagreatdoor", sum := "78bd262b4e2733600515bc103e1266cfb8f77640279b9f7e4efa0f7cfed6ad62", func := "relucert/relucertlaw34.PhaseParse", spec := "phaseParse", inPlace := ["internal/bytealg.CountString", "internal/bytealg.IndexByteString", "internal/bytealg.IndexString", "internal/abi.NoEscape", "internal/bytealg.MakeNoZero"], unfollowed := true, recurses := true, named := ["relucert/phase.opposites", "internal/strconv.uint64pow10", "math/bits.deBruijn32tab", "math/bits.deBruijn64tab", "unicode/utf8.first", "unicode/utf8.acceptRanges", "internal/bytealg.MaxLen", "strconv.ErrSyntax", "strconv.ErrRange"], apart := false, laid := [("math/bits.deBruijn32tab", laid_math_bits_deBruijn32tab), ("math/bits.deBruijn64tab", laid_math_bits_deBruijn64tab), ("internal/strconv.uint64pow10", laid_internal_strconv_uint64pow10), ("unicode/utf8.acceptRanges", laid_unicode_utf8_acceptRanges), ("strconv.ErrRange", laid_strconv_ErrRange), ("strconv.ErrSyntax", laid_strconv_ErrSyntax), ("relucert/phase.opposites", laid_relucert_phase_opposites), ("unicode/utf8.first", laid_unicode_utf8_first)], narrowed := true }
def PhaseParseUptoSaid : Prop := phaseParseUptoRow.holds Tryz.pinned (OpenSpec.upto phaseParseSpec)

end Rows
end Go.Proofs.YtkakmdadnhjphaaGreatDoor
