/-
  NARROWER THAN 'FOR EVERY INPUT', by the rows' own cells (each row's printed sentence says how): ProgramText: laid · GraphScale: laid · GraphText: laid · GraphValues: laid · GraphUnits: laid · GraphValid: laid · GraphPermute: laid · GraphHalve: laid · LinearText: laid · LinearParse: laid · LinearMake: laid.
  DERIVED. THE GIVEN ROWS OF THIS SEAT. 11 by the template 'for every input the law returns true; each argument reads behind the call as it read before'; 0 by the template 'total and deterministic' (their statements: YtlpmemelhlnfbaaGreatDoorTotals.lean).
  GIVEN WITH THE SEED: the statements are not yours to turn. If you find one false, say at which input.
  Laid BY PROGRAM, IN A SANDBOX (cutbox-rows.mjs): the forced cells as the released guide's own fill.sh prints them over the translation 43df884307acc70f… (all of the seat's roots in one cut). By AI agents, Wed Nov 11 2026. No macro, syntax, notation, axiom, sorry.
-/
import Derived.Test.YtlpmemelhlnfbaaGreatDoorChecked
import GoSem.Claim
import GoSem.ClaimJoined
import GoSem.ClaimMapViews
import Derived.JoinedTies
import Derived.KernelRfl
namespace Go.Proofs.YtlpmemelhlnfbaaGreatDoor
/- THE CELL 'sum', in the pinned program and in every row, IS THE sha256 OF THE DUMP (.gsa) THAT YtlpmemelhlnfbaaGreatDoorProg.lean LOADS. Nothing in Lean hashes anything: it is a label: what it is worth is what the hold of that sum in a sandbox is worth. -/
noncomputable def Tryz.pinned : Pinned := { name := "ytlpmemelhlnfbaagreatdoor", sum := "43df884307acc70f086a894a7542165d01c742d2fdf7614e50629b62ba449cb2", checked := Tryz.checked }
namespace Rows
def none {H : Type} : Left H := { results := [], args := [] }

/- WHAT THE LISTED PACKAGE-LEVEL VARIABLES READ AS WHEN THE CALL BEGINS. Each datum BY PROGRAM (the guide's laid-datum.mjs) off the statement by which the dump's own 'gosem.cut.vars' lays the variable. In a bare row this is a premise. The card (YtlpmemelhlnfbaaGreatDoorCards.lean) ties it to the program's text. -/
def laid_math_bits_deBruijn32tab {H : Type} : DataW H := .agg [.lit (.int .u8 0), .lit (.int .u8 1), .lit (.int .u8 28), .lit (.int .u8 2), .lit (.int .u8 29), .lit (.int .u8 14), .lit (.int .u8 24), .lit (.int .u8 3), .lit (.int .u8 30), .lit (.int .u8 22), .lit (.int .u8 20), .lit (.int .u8 15), .lit (.int .u8 25), .lit (.int .u8 17), .lit (.int .u8 4), .lit (.int .u8 8), .lit (.int .u8 31), .lit (.int .u8 27), .lit (.int .u8 13), .lit (.int .u8 23), .lit (.int .u8 21), .lit (.int .u8 19), .lit (.int .u8 16), .lit (.int .u8 7), .lit (.int .u8 26), .lit (.int .u8 12), .lit (.int .u8 18), .lit (.int .u8 6), .lit (.int .u8 11), .lit (.int .u8 5), .lit (.int .u8 10), .lit (.int .u8 9)]
def laid_math_bits_deBruijn64tab {H : Type} : DataW H := .agg [.lit (.int .u8 0), .lit (.int .u8 1), .lit (.int .u8 56), .lit (.int .u8 2), .lit (.int .u8 57), .lit (.int .u8 49), .lit (.int .u8 28), .lit (.int .u8 3), .lit (.int .u8 61), .lit (.int .u8 58), .lit (.int .u8 42), .lit (.int .u8 50), .lit (.int .u8 38), .lit (.int .u8 29), .lit (.int .u8 17), .lit (.int .u8 4), .lit (.int .u8 62), .lit (.int .u8 47), .lit (.int .u8 59), .lit (.int .u8 36), .lit (.int .u8 45), .lit (.int .u8 43), .lit (.int .u8 51), .lit (.int .u8 22), .lit (.int .u8 53), .lit (.int .u8 39), .lit (.int .u8 33), .lit (.int .u8 30), .lit (.int .u8 24), .lit (.int .u8 18), .lit (.int .u8 12), .lit (.int .u8 5), .lit (.int .u8 63), .lit (.int .u8 55), .lit (.int .u8 48), .lit (.int .u8 27), .lit (.int .u8 60), .lit (.int .u8 41), .lit (.int .u8 37), .lit (.int .u8 16), .lit (.int .u8 46), .lit (.int .u8 35), .lit (.int .u8 44), .lit (.int .u8 21), .lit (.int .u8 52), .lit (.int .u8 32), .lit (.int .u8 23), .lit (.int .u8 11), .lit (.int .u8 54), .lit (.int .u8 26), .lit (.int .u8 40), .lit (.int .u8 15), .lit (.int .u8 34), .lit (.int .u8 20), .lit (.int .u8 31), .lit (.int .u8 10), .lit (.int .u8 25), .lit (.int .u8 14), .lit (.int .u8 19), .lit (.int .u8 9), .lit (.int .u8 13), .lit (.int .u8 8), .lit (.int .u8 7), .lit (.int .u8 6)]
def laid_internal_strconv_uint64pow10 {H : Type} : DataW H := .agg [.lit (.int .u64 1), .lit (.int .u64 10), .lit (.int .u64 100), .lit (.int .u64 1000), .lit (.int .u64 10000), .lit (.int .u64 100000), .lit (.int .u64 1000000), .lit (.int .u64 10000000), .lit (.int .u64 100000000), .lit (.int .u64 1000000000), .lit (.int .u64 10000000000), .lit (.int .u64 100000000000), .lit (.int .u64 1000000000000), .lit (.int .u64 10000000000000), .lit (.int .u64 100000000000000), .lit (.int .u64 1000000000000000), .lit (.int .u64 10000000000000000), .lit (.int .u64 100000000000000000), .lit (.int .u64 1000000000000000000), .lit (.int .u64 10000000000000000000)]
def laid_strconv_ErrRange {H : Type} : DataW H := .iface "*errors.errorString" (.ptr (.agg [.lit (.string [118, 97, 108, 117, 101, 32, 111, 117, 116, 32, 111, 102, 32, 114, 97, 110, 103, 101])]))
def laid_strconv_ErrSyntax {H : Type} : DataW H := .iface "*errors.errorString" (.ptr (.agg [.lit (.string [105, 110, 118, 97, 108, 105, 100, 32, 115, 121, 110, 116, 97, 120])]))

/-- 'relucertlaw27.ProgramText': WHATEVER THE INPUT: true; the input reads as it did. -/
def programTextSpec : ChangeSpec := { name := "programText", fn := fun _ => fun
  | [d] => { results := [.lit (.bool true)], args := [d] }
  | _ => none }
def programTextRow : OpenClaim := { program := "ytlpmemelhlnfbaagreatdoor", sum := "43df884307acc70f086a894a7542165d01c742d2fdf7614e50629b62ba449cb2", func := "relucert/relucertlaw27.ProgramText", spec := "programText", inPlace := ["internal/abi.NoEscape", "internal/bytealg.MakeNoZero"], unfollowed := true, recurses := true, named := ["internal/strconv.uint64pow10", "math/bits.deBruijn32tab", "math/bits.deBruijn64tab"], apart := false, laid := [("math/bits.deBruijn32tab", laid_math_bits_deBruijn32tab), ("math/bits.deBruijn64tab", laid_math_bits_deBruijn64tab), ("internal/strconv.uint64pow10", laid_internal_strconv_uint64pow10)] }
def ProgramTextSaid : Prop := programTextRow.holds Tryz.pinned (OpenSpec.ofChange programTextSpec)

/-- ITS FALSE NEIGHBOUR: 'it returns false'. Refute it at one input. -/
def programTextWrong : ChangeSpec := { name := "programText", fn := fun _ => fun
  | [d] => { results := [.lit (.bool false)], args := [d] }
  | _ => none }
def ProgramTextWrongFalsely : Prop := programTextRow.holds Tryz.pinned (OpenSpec.ofChange programTextWrong)

/-- 'relucertlaw15.GraphScale': WHATEVER THE INPUT: true; the input reads as it did. -/
def graphScaleSpec : ChangeSpec := { name := "graphScale", fn := fun _ => fun
  | [d1, d2, d3] => { results := [.lit (.bool true)], args := [d1, d2, d3] }
  | _ => none }
def graphScaleRow : OpenClaim := { program := "ytlpmemelhlnfbaagreatdoor", sum := "43df884307acc70f086a894a7542165d01c742d2fdf7614e50629b62ba449cb2", func := "relucert/relucertlaw15.GraphScale", spec := "graphScale", inPlace := ["internal/abi.NoEscape", "internal/bytealg.MakeNoZero"], unfollowed := true, recurses := true, named := ["internal/strconv.uint64pow10", "math/bits.deBruijn32tab", "math/bits.deBruijn64tab"], apart := false, laid := [("math/bits.deBruijn32tab", laid_math_bits_deBruijn32tab), ("math/bits.deBruijn64tab", laid_math_bits_deBruijn64tab), ("internal/strconv.uint64pow10", laid_internal_strconv_uint64pow10)] }
def GraphScaleSaid : Prop := graphScaleRow.holds Tryz.pinned (OpenSpec.ofChange graphScaleSpec)

/-- ITS FALSE NEIGHBOUR: 'it returns false'. Refute it at one input. -/
def graphScaleWrong : ChangeSpec := { name := "graphScale", fn := fun _ => fun
  | [d1, d2, d3] => { results := [.lit (.bool false)], args := [d1, d2, d3] }
  | _ => none }
def GraphScaleWrongFalsely : Prop := graphScaleRow.holds Tryz.pinned (OpenSpec.ofChange graphScaleWrong)

/-- 'relucertlaw15.GraphText': WHATEVER THE INPUT: true; the input reads as it did. -/
def graphTextSpec : ChangeSpec := { name := "graphText", fn := fun _ => fun
  | [d1, d2] => { results := [.lit (.bool true)], args := [d1, d2] }
  | _ => none }
def graphTextRow : OpenClaim := { program := "ytlpmemelhlnfbaagreatdoor", sum := "43df884307acc70f086a894a7542165d01c742d2fdf7614e50629b62ba449cb2", func := "relucert/relucertlaw15.GraphText", spec := "graphText", inPlace := ["internal/abi.NoEscape", "internal/bytealg.MakeNoZero"], unfollowed := true, recurses := true, named := ["internal/strconv.uint64pow10", "math/bits.deBruijn32tab", "math/bits.deBruijn64tab"], apart := false, laid := [("math/bits.deBruijn32tab", laid_math_bits_deBruijn32tab), ("math/bits.deBruijn64tab", laid_math_bits_deBruijn64tab), ("internal/strconv.uint64pow10", laid_internal_strconv_uint64pow10)] }
def GraphTextSaid : Prop := graphTextRow.holds Tryz.pinned (OpenSpec.ofChange graphTextSpec)

/-- ITS FALSE NEIGHBOUR: 'it returns false'. Refute it at one input. -/
def graphTextWrong : ChangeSpec := { name := "graphText", fn := fun _ => fun
  | [d1, d2] => { results := [.lit (.bool false)], args := [d1, d2] }
  | _ => none }
def GraphTextWrongFalsely : Prop := graphTextRow.holds Tryz.pinned (OpenSpec.ofChange graphTextWrong)

/-- 'relucertlaw15.GraphValues': WHATEVER THE INPUT: true; the input reads as it did. -/
def graphValuesSpec : ChangeSpec := { name := "graphValues", fn := fun _ => fun
  | [d1, d2] => { results := [.lit (.bool true)], args := [d1, d2] }
  | _ => none }
def graphValuesRow : OpenClaim := { program := "ytlpmemelhlnfbaagreatdoor", sum := "43df884307acc70f086a894a7542165d01c742d2fdf7614e50629b62ba449cb2", func := "relucert/relucertlaw15.GraphValues", spec := "graphValues", inPlace := ["internal/abi.NoEscape", "internal/bytealg.MakeNoZero"], unfollowed := true, recurses := true, named := ["internal/strconv.uint64pow10", "math/bits.deBruijn32tab", "math/bits.deBruijn64tab"], apart := false, laid := [("math/bits.deBruijn32tab", laid_math_bits_deBruijn32tab), ("math/bits.deBruijn64tab", laid_math_bits_deBruijn64tab), ("internal/strconv.uint64pow10", laid_internal_strconv_uint64pow10)] }
def GraphValuesSaid : Prop := graphValuesRow.holds Tryz.pinned (OpenSpec.ofChange graphValuesSpec)

/-- ITS FALSE NEIGHBOUR: 'it returns false'. Refute it at one input. -/
def graphValuesWrong : ChangeSpec := { name := "graphValues", fn := fun _ => fun
  | [d1, d2] => { results := [.lit (.bool false)], args := [d1, d2] }
  | _ => none }
def GraphValuesWrongFalsely : Prop := graphValuesRow.holds Tryz.pinned (OpenSpec.ofChange graphValuesWrong)

/-- 'relucertlaw15.GraphUnits': WHATEVER THE INPUT: true; the input reads as it did. -/
def graphUnitsSpec : ChangeSpec := { name := "graphUnits", fn := fun _ => fun
  | [d1, d2] => { results := [.lit (.bool true)], args := [d1, d2] }
  | _ => none }
def graphUnitsRow : OpenClaim := { program := "ytlpmemelhlnfbaagreatdoor", sum := "43df884307acc70f086a894a7542165d01c742d2fdf7614e50629b62ba449cb2", func := "relucert/relucertlaw15.GraphUnits", spec := "graphUnits", inPlace := ["internal/abi.NoEscape", "internal/bytealg.MakeNoZero"], unfollowed := true, recurses := true, named := ["internal/strconv.uint64pow10", "math/bits.deBruijn32tab", "math/bits.deBruijn64tab"], apart := false, laid := [("math/bits.deBruijn32tab", laid_math_bits_deBruijn32tab), ("math/bits.deBruijn64tab", laid_math_bits_deBruijn64tab), ("internal/strconv.uint64pow10", laid_internal_strconv_uint64pow10)] }
def GraphUnitsSaid : Prop := graphUnitsRow.holds Tryz.pinned (OpenSpec.ofChange graphUnitsSpec)

/-- ITS FALSE NEIGHBOUR: 'it returns false'. Refute it at one input. -/
def graphUnitsWrong : ChangeSpec := { name := "graphUnits", fn := fun _ => fun
  | [d1, d2] => { results := [.lit (.bool false)], args := [d1, d2] }
  | _ => none }
def GraphUnitsWrongFalsely : Prop := graphUnitsRow.holds Tryz.pinned (OpenSpec.ofChange graphUnitsWrong)

/-- 'relucertlaw15.GraphValid': WHATEVER THE INPUT: true; the input reads as it did. -/
def graphValidSpec : ChangeSpec := { name := "graphValid", fn := fun _ => fun
  | [d1, d2] => { results := [.lit (.bool true)], args := [d1, d2] }
  | _ => none }
def graphValidRow : OpenClaim := { program := "ytlpmemelhlnfbaagreatdoor", sum := "43df884307acc70f086a894a7542165d01c742d2fdf7614e50629b62ba449cb2", func := "relucert/relucertlaw15.GraphValid", spec := "graphValid", inPlace := ["internal/abi.NoEscape", "internal/bytealg.MakeNoZero"], unfollowed := true, recurses := true, named := ["internal/strconv.uint64pow10", "math/bits.deBruijn32tab", "math/bits.deBruijn64tab"], apart := false, laid := [("math/bits.deBruijn32tab", laid_math_bits_deBruijn32tab), ("math/bits.deBruijn64tab", laid_math_bits_deBruijn64tab), ("internal/strconv.uint64pow10", laid_internal_strconv_uint64pow10)] }
def GraphValidSaid : Prop := graphValidRow.holds Tryz.pinned (OpenSpec.ofChange graphValidSpec)

/-- ITS FALSE NEIGHBOUR: 'it returns false'. Refute it at one input. -/
def graphValidWrong : ChangeSpec := { name := "graphValid", fn := fun _ => fun
  | [d1, d2] => { results := [.lit (.bool false)], args := [d1, d2] }
  | _ => none }
def GraphValidWrongFalsely : Prop := graphValidRow.holds Tryz.pinned (OpenSpec.ofChange graphValidWrong)

/-- 'relucertlaw15.GraphPermute': WHATEVER THE INPUT: true; the input reads as it did. -/
def graphPermuteSpec : ChangeSpec := { name := "graphPermute", fn := fun _ => fun
  | [d1, d2, d3] => { results := [.lit (.bool true)], args := [d1, d2, d3] }
  | _ => none }
def graphPermuteRow : OpenClaim := { program := "ytlpmemelhlnfbaagreatdoor", sum := "43df884307acc70f086a894a7542165d01c742d2fdf7614e50629b62ba449cb2", func := "relucert/relucertlaw15.GraphPermute", spec := "graphPermute", inPlace := ["internal/abi.NoEscape", "internal/bytealg.MakeNoZero"], unfollowed := true, recurses := true, named := ["internal/strconv.uint64pow10", "math/bits.deBruijn32tab", "math/bits.deBruijn64tab"], apart := false, laid := [("math/bits.deBruijn32tab", laid_math_bits_deBruijn32tab), ("math/bits.deBruijn64tab", laid_math_bits_deBruijn64tab), ("internal/strconv.uint64pow10", laid_internal_strconv_uint64pow10)] }
def GraphPermuteSaid : Prop := graphPermuteRow.holds Tryz.pinned (OpenSpec.ofChange graphPermuteSpec)

/-- ITS FALSE NEIGHBOUR: 'it returns false'. Refute it at one input. -/
def graphPermuteWrong : ChangeSpec := { name := "graphPermute", fn := fun _ => fun
  | [d1, d2, d3] => { results := [.lit (.bool false)], args := [d1, d2, d3] }
  | _ => none }
def GraphPermuteWrongFalsely : Prop := graphPermuteRow.holds Tryz.pinned (OpenSpec.ofChange graphPermuteWrong)

/-- 'relucertlaw15.GraphHalve': WHATEVER THE INPUT: true; the input reads as it did. -/
def graphHalveSpec : ChangeSpec := { name := "graphHalve", fn := fun _ => fun
  | [d1, d2, d3] => { results := [.lit (.bool true)], args := [d1, d2, d3] }
  | _ => none }
def graphHalveRow : OpenClaim := { program := "ytlpmemelhlnfbaagreatdoor", sum := "43df884307acc70f086a894a7542165d01c742d2fdf7614e50629b62ba449cb2", func := "relucert/relucertlaw15.GraphHalve", spec := "graphHalve", inPlace := ["internal/abi.NoEscape", "internal/bytealg.MakeNoZero"], unfollowed := true, recurses := true, named := ["internal/strconv.uint64pow10", "math/bits.deBruijn32tab", "math/bits.deBruijn64tab"], apart := false, laid := [("math/bits.deBruijn32tab", laid_math_bits_deBruijn32tab), ("math/bits.deBruijn64tab", laid_math_bits_deBruijn64tab), ("internal/strconv.uint64pow10", laid_internal_strconv_uint64pow10)] }
def GraphHalveSaid : Prop := graphHalveRow.holds Tryz.pinned (OpenSpec.ofChange graphHalveSpec)

/-- ITS FALSE NEIGHBOUR: 'it returns false'. Refute it at one input. -/
def graphHalveWrong : ChangeSpec := { name := "graphHalve", fn := fun _ => fun
  | [d1, d2, d3] => { results := [.lit (.bool false)], args := [d1, d2, d3] }
  | _ => none }
def GraphHalveWrongFalsely : Prop := graphHalveRow.holds Tryz.pinned (OpenSpec.ofChange graphHalveWrong)

/-- 'relucertlaw07.LinearText': WHATEVER THE INPUT: true; the input reads as it did. -/
def linearTextSpec : ChangeSpec := { name := "linearText", fn := fun _ => fun
  | [d] => { results := [.lit (.bool true)], args := [d] }
  | _ => none }
def linearTextRow : OpenClaim := { program := "ytlpmemelhlnfbaagreatdoor", sum := "43df884307acc70f086a894a7542165d01c742d2fdf7614e50629b62ba449cb2", func := "relucert/relucertlaw07.LinearText", spec := "linearText", inPlace := ["internal/bytealg.IndexByteString", "internal/abi.NoEscape", "internal/bytealg.MakeNoZero"], unfollowed := true, recurses := true, named := ["strconv.ErrSyntax", "strconv.ErrRange", "internal/strconv.uint64pow10", "math/bits.deBruijn32tab", "math/bits.deBruijn64tab"], apart := false, laid := [("math/bits.deBruijn32tab", laid_math_bits_deBruijn32tab), ("math/bits.deBruijn64tab", laid_math_bits_deBruijn64tab), ("internal/strconv.uint64pow10", laid_internal_strconv_uint64pow10), ("strconv.ErrRange", laid_strconv_ErrRange), ("strconv.ErrSyntax", laid_strconv_ErrSyntax)] }
def LinearTextSaid : Prop := linearTextRow.holds Tryz.pinned (OpenSpec.ofChange linearTextSpec)

/-- ITS FALSE NEIGHBOUR: 'it returns false'. Refute it at one input. -/
def linearTextWrong : ChangeSpec := { name := "linearText", fn := fun _ => fun
  | [d] => { results := [.lit (.bool false)], args := [d] }
  | _ => none }
def LinearTextWrongFalsely : Prop := linearTextRow.holds Tryz.pinned (OpenSpec.ofChange linearTextWrong)

/-- 'relucertlaw07.LinearParse': WHATEVER THE INPUT: true; the input reads as it did. -/
def linearParseSpec : ChangeSpec := { name := "linearParse", fn := fun _ => fun
  | [d] => { results := [.lit (.bool true)], args := [d] }
  | _ => none }
def linearParseRow : OpenClaim := { program := "ytlpmemelhlnfbaagreatdoor", sum := "43df884307acc70f086a894a7542165d01c742d2fdf7614e50629b62ba449cb2", func := "relucert/relucertlaw07.LinearParse", spec := "linearParse", inPlace := ["internal/bytealg.IndexByteString", "internal/abi.NoEscape", "internal/bytealg.MakeNoZero"], unfollowed := true, recurses := true, named := ["strconv.ErrSyntax", "strconv.ErrRange", "internal/strconv.uint64pow10", "math/bits.deBruijn32tab", "math/bits.deBruijn64tab"], apart := false, laid := [("math/bits.deBruijn32tab", laid_math_bits_deBruijn32tab), ("math/bits.deBruijn64tab", laid_math_bits_deBruijn64tab), ("internal/strconv.uint64pow10", laid_internal_strconv_uint64pow10), ("strconv.ErrRange", laid_strconv_ErrRange), ("strconv.ErrSyntax", laid_strconv_ErrSyntax)] }
def LinearParseSaid : Prop := linearParseRow.holds Tryz.pinned (OpenSpec.ofChange linearParseSpec)

/-- ITS FALSE NEIGHBOUR: 'it returns false'. Refute it at one input. -/
def linearParseWrong : ChangeSpec := { name := "linearParse", fn := fun _ => fun
  | [d] => { results := [.lit (.bool false)], args := [d] }
  | _ => none }
def LinearParseWrongFalsely : Prop := linearParseRow.holds Tryz.pinned (OpenSpec.ofChange linearParseWrong)

/-- 'relucertlaw07.LinearMake': WHATEVER THE INPUT: true; the input reads as it did. -/
def linearMakeSpec : ChangeSpec := { name := "linearMake", fn := fun _ => fun
  | [d1, d2, d3] => { results := [.lit (.bool true)], args := [d1, d2, d3] }
  | _ => none }
def linearMakeRow : OpenClaim := { program := "ytlpmemelhlnfbaagreatdoor", sum := "43df884307acc70f086a894a7542165d01c742d2fdf7614e50629b62ba449cb2", func := "relucert/relucertlaw07.LinearMake", spec := "linearMake", inPlace := ["internal/bytealg.IndexByteString", "internal/abi.NoEscape", "internal/bytealg.MakeNoZero"], unfollowed := true, recurses := true, named := ["strconv.ErrSyntax", "strconv.ErrRange", "internal/strconv.uint64pow10", "math/bits.deBruijn32tab", "math/bits.deBruijn64tab"], apart := false, laid := [("math/bits.deBruijn32tab", laid_math_bits_deBruijn32tab), ("math/bits.deBruijn64tab", laid_math_bits_deBruijn64tab), ("internal/strconv.uint64pow10", laid_internal_strconv_uint64pow10), ("strconv.ErrRange", laid_strconv_ErrRange), ("strconv.ErrSyntax", laid_strconv_ErrSyntax)] }
def LinearMakeSaid : Prop := linearMakeRow.holds Tryz.pinned (OpenSpec.ofChange linearMakeSpec)

/-- ITS FALSE NEIGHBOUR: 'it returns false'. Refute it at one input. -/
def linearMakeWrong : ChangeSpec := { name := "linearMake", fn := fun _ => fun
  | [d1, d2, d3] => { results := [.lit (.bool false)], args := [d1, d2, d3] }
  | _ => none }
def LinearMakeWrongFalsely : Prop := linearMakeRow.holds Tryz.pinned (OpenSpec.ofChange linearMakeWrong)

/- THE SECOND FORM. 'bulk': how many values and letters a reading holds, each counted each time it is reached (what is shared counts as often as it is met; a slice's spare places count too). A statement '..UptoSaid' is the law's where the arguments, and the package variables that the reading takes, are together of bulk at most 1048576: NARROWER than '..Said'. Prove '..Said' where nothing that the law and all that it calls make is longer than what came in: it says more and counts as full. Else prove '..UptoSaid'. A law counts once. -/
mutual
def uptoBulk {H : Type} : DataW H → Nat
  | .lit (.string bytes) => bytes.length + 1
  | .lit _ => 1
  | .nil => 1
  | .ptr d => uptoBulk d + 1
  | .slice elems spare => uptoBulkAll elems + uptoBulkAll spare + 1
  | .agg parts => uptoBulkAll parts + 1
  | .iface _ d => uptoBulk d + 1
  | .map entries => uptoBulkEntries entries + 1
  | .held _ => 1
def uptoBulkAll {H : Type} : List (DataW H) → Nat
  | [] => 0
  | d :: r => uptoBulk d + uptoBulkAll r
def uptoBulkEntries {H : Type} : List (Lit × DataW H) → Nat
  | [] => 0
  | x :: r => uptoBulkEntry x + uptoBulkEntries r
def uptoBulkEntry {H : Type} : Lit × DataW H → Nat
  | (.string bytes, d) => bytes.length + uptoBulk d + 1
  | (_, d) => uptoBulk d + 1
 end
def uptoSmall : (H : Type) → List (DataW H) → Bool := fun _ ds => decide (uptoBulkAll ds ≤ 1048576)
def OpenSpec.upto (s : _root_.Go.ChangeSpec) : _root_.Go.OpenSpec := { _root_.Go.OpenSpec.ofChange s with cond := some uptoSmall }

/-- 'relucertlaw27.ProgramText', WHERE WHAT IT READS IS OF BULK AT MOST 1048576: true; the input reads as it did. -/
def programTextUptoRow : OpenClaim := { program := "ytlpmemelhlnfbaagreatdoor", sum := "43df884307acc70f086a894a7542165d01c742d2fdf7614e50629b62ba449cb2", func := "relucert/relucertlaw27.ProgramText", spec := "programText", inPlace := ["internal/abi.NoEscape", "internal/bytealg.MakeNoZero"], unfollowed := true, recurses := true, named := ["internal/strconv.uint64pow10", "math/bits.deBruijn32tab", "math/bits.deBruijn64tab"], apart := false, laid := [("math/bits.deBruijn32tab", laid_math_bits_deBruijn32tab), ("math/bits.deBruijn64tab", laid_math_bits_deBruijn64tab), ("internal/strconv.uint64pow10", laid_internal_strconv_uint64pow10)], narrowed := true }
def ProgramTextUptoSaid : Prop := programTextUptoRow.holds Tryz.pinned (OpenSpec.upto programTextSpec)

/-- 'relucertlaw15.GraphScale', WHERE WHAT IT READS IS OF BULK AT MOST 1048576: true; the input reads as it did. -/
def graphScaleUptoRow : OpenClaim := { program := "ytlpmemelhlnfbaagreatdoor", sum := "43df884307acc70f086a894a7542165d01c742d2fdf7614e50629b62ba449cb2", func := "relucert/relucertlaw15.GraphScale", spec := "graphScale", inPlace := ["internal/abi.NoEscape", "internal/bytealg.MakeNoZero"], unfollowed := true, recurses := true, named := ["internal/strconv.uint64pow10", "math/bits.deBruijn32tab", "math/bits.deBruijn64tab"], apart := false, laid := [("math/bits.deBruijn32tab", laid_math_bits_deBruijn32tab), ("math/bits.deBruijn64tab", laid_math_bits_deBruijn64tab), ("internal/strconv.uint64pow10", laid_internal_strconv_uint64pow10)], narrowed := true }
def GraphScaleUptoSaid : Prop := graphScaleUptoRow.holds Tryz.pinned (OpenSpec.upto graphScaleSpec)

/-- 'relucertlaw15.GraphText', WHERE WHAT IT READS IS OF BULK AT MOST 1048576: true; the input reads as it did. -/
def graphTextUptoRow : OpenClaim := { program := "ytlpmemelhlnfbaagreatdoor", sum := "43df884307acc70f086a894a7542165d01c742d2fdf7614e50629b62ba449cb2", func := "relucert/relucertlaw15.GraphText", spec := "graphText", inPlace := ["internal/abi.NoEscape", "internal/bytealg.MakeNoZero"], unfollowed := true, recurses := true, named := ["internal/strconv.uint64pow10", "math/bits.deBruijn32tab", "math/bits.deBruijn64tab"], apart := false, laid := [("math/bits.deBruijn32tab", laid_math_bits_deBruijn32tab), ("math/bits.deBruijn64tab", laid_math_bits_deBruijn64tab), ("internal/strconv.uint64pow10", laid_internal_strconv_uint64pow10)], narrowed := true }
def GraphTextUptoSaid : Prop := graphTextUptoRow.holds Tryz.pinned (OpenSpec.upto graphTextSpec)

/-- 'relucertlaw15.GraphValues', WHERE WHAT IT READS IS OF BULK AT MOST 1048576: true; the input reads as it did. -/
def graphValuesUptoRow : OpenClaim := { program := "ytlpmemelhlnfbaagreatdoor", sum := "43df884307acc70f086a894a7542165d01c742d2fdf7614e50629b62ba449cb2", func := "relucert/relucertlaw15.GraphValues", spec := "graphValues", inPlace := ["internal/abi.NoEscape", "internal/bytealg.MakeNoZero"], unfollowed := true, recurses := true, named := ["internal/strconv.uint64pow10", "math/bits.deBruijn32tab", "math/bits.deBruijn64tab"], apart := false, laid := [("math/bits.deBruijn32tab", laid_math_bits_deBruijn32tab), ("math/bits.deBruijn64tab", laid_math_bits_deBruijn64tab), ("internal/strconv.uint64pow10", laid_internal_strconv_uint64pow10)], narrowed := true }
def GraphValuesUptoSaid : Prop := graphValuesUptoRow.holds Tryz.pinned (OpenSpec.upto graphValuesSpec)

/-- 'relucertlaw15.GraphUnits', WHERE WHAT IT READS IS OF BULK AT MOST 1048576: true; the input reads as it did. -/
def graphUnitsUptoRow : OpenClaim := { program := "ytlpmemelhlnfbaagreatdoor", sum := "43df884307acc70f086a894a7542165d01c742d2fdf7614e50629b62ba449cb2", func := "relucert/relucertlaw15.GraphUnits", spec := "graphUnits", inPlace := ["internal/abi.NoEscape", "internal/bytealg.MakeNoZero"], unfollowed := true, recurses := true, named := ["internal/strconv.uint64pow10", "math/bits.deBruijn32tab", "math/bits.deBruijn64tab"], apart := false, laid := [("math/bits.deBruijn32tab", laid_math_bits_deBruijn32tab), ("math/bits.deBruijn64tab", laid_math_bits_deBruijn64tab), ("internal/strconv.uint64pow10", laid_internal_strconv_uint64pow10)], narrowed := true }
def GraphUnitsUptoSaid : Prop := graphUnitsUptoRow.holds Tryz.pinned (OpenSpec.upto graphUnitsSpec)

/-- 'relucertlaw15.GraphValid', WHERE WHAT IT READS IS OF BULK AT MOST 1048576: true; the input reads as it did. -/
def graphValidUptoRow : OpenClaim := { program := "ytlpmemelhlnfbaagreatdoor", sum := "43df884307acc70f086a894a7542165d01c742d2fdf7614e50629b62ba449cb2", func := "relucert/relucertlaw15.GraphValid", spec := "graphValid", inPlace := ["internal/abi.NoEscape", "internal/bytealg.MakeNoZero"], unfollowed := true, recurses := true, named := ["internal/strconv.uint64pow10", "math/bits.deBruijn32tab", "math/bits.deBruijn64tab"], apart := false, laid := [("math/bits.deBruijn32tab", laid_math_bits_deBruijn32tab), ("math/bits.deBruijn64tab", laid_math_bits_deBruijn64tab), ("internal/strconv.uint64pow10", laid_internal_strconv_uint64pow10)], narrowed := true }
def GraphValidUptoSaid : Prop := graphValidUptoRow.holds Tryz.pinned (OpenSpec.upto graphValidSpec)

/-- 'relucertlaw15.GraphPermute', WHERE WHAT IT READS IS OF BULK AT MOST 1048576: true; the input reads as it did. -/
def graphPermuteUptoRow : OpenClaim := { program := "ytlpmemelhlnfbaagreatdoor", sum := "43df884307acc70f086a894a7542165d01c742d2fdf7614e50629b62ba449cb2", func := "relucert/relucertlaw15.GraphPermute", spec := "graphPermute", inPlace := ["internal/abi.NoEscape", "internal/bytealg.MakeNoZero"], unfollowed := true, recurses := true, named := ["internal/strconv.uint64pow10", "math/bits.deBruijn32tab", "math/bits.deBruijn64tab"], apart := false, laid := [("math/bits.deBruijn32tab", laid_math_bits_deBruijn32tab), ("math/bits.deBruijn64tab", laid_math_bits_deBruijn64tab), ("internal/strconv.uint64pow10", laid_internal_strconv_uint64pow10)], narrowed := true }
def GraphPermuteUptoSaid : Prop := graphPermuteUptoRow.holds Tryz.pinned (OpenSpec.upto graphPermuteSpec)

/-- 'relucertlaw15.GraphHalve', WHERE WHAT IT READS IS OF BULK AT MOST 1048576: true; the input reads as it did. -/
def graphHalveUptoRow : OpenClaim := { program := "ytlpmemelhlnfbaagreatdoor", sum := "43df884307acc70f086a894a7542165d01c742d2fdf7614e50629b62ba449cb2", func := "relucert/relucertlaw15.GraphHalve", spec := "graphHalve", inPlace := ["internal/abi.NoEscape", "internal/bytealg.MakeNoZero"], unfollowed := true, recurses := true, named := ["internal/strconv.uint64pow10", "math/bits.deBruijn32tab", "math/bits.deBruijn64tab"], apart := false, laid := [("math/bits.deBruijn32tab", laid_math_bits_deBruijn32tab), ("math/bits.deBruijn64tab", laid_math_bits_deBruijn64tab), ("internal/strconv.uint64pow10", laid_internal_strconv_uint64pow10)], narrowed := true }
def GraphHalveUptoSaid : Prop := graphHalveUptoRow.holds Tryz.pinned (OpenSpec.upto graphHalveSpec)

/-- 'relucertlaw07.LinearText', WHERE WHAT IT READS IS OF BULK AT MOST 1048576: true; the input reads as it did. -/
def linearTextUptoRow : OpenClaim := { program := "ytlpmemelhlnfbaagreatdoor", sum := "43df884307acc70f086a894a7542165d01c742d2fdf7614e50629b62ba449cb2", func := "relucert/relucertlaw07.LinearText", spec := "linearText", inPlace := ["internal/bytealg.IndexByteString", "internal/abi.NoEscape", "internal/bytealg.MakeNoZero"], unfollowed := true, recurses := true, named := ["strconv.ErrSyntax", "strconv.ErrRange", "internal/strconv.uint64pow10", "math/bits.deBruijn32tab", "math/bits.deBruijn64tab"], apart := false, laid := [("math/bits.deBruijn32tab", laid_math_bits_deBruijn32tab), ("math/bits.deBruijn64tab", laid_math_bits_deBruijn64tab), ("internal/strconv.uint64pow10", laid_internal_strconv_uint64pow10), ("strconv.ErrRange", laid_strconv_ErrRange), ("strconv.ErrSyntax", laid_strconv_ErrSyntax)], narrowed := true }
def LinearTextUptoSaid : Prop := linearTextUptoRow.holds Tryz.pinned (OpenSpec.upto linearTextSpec)

/-- 'relucertlaw07.LinearParse', WHERE WHAT IT READS IS OF BULK AT MOST 1048576: true; the input reads as it did. -/
def linearParseUptoRow : OpenClaim := { program := "ytlpmemelhlnfbaagreatdoor", sum := "43df884307acc70f086a894a7542165d01c742d2fdf7614e50629b62ba449cb2", func := "relucert/relucertlaw07.LinearParse", spec := "linearParse", inPlace := ["internal/bytealg.IndexByteString", "internal/abi.NoEscape", "internal/bytealg.MakeNoZero"], unfollowed := true, recurses := true, named := ["strconv.ErrSyntax", "strconv.ErrRange", "internal/strconv.uint64pow10", "math/bits.deBruijn32tab", "math/bits.deBruijn64tab"], apart := false, laid := [("math/bits.deBruijn32tab", laid_math_bits_deBruijn32tab), ("math/bits.deBruijn64tab", laid_math_bits_deBruijn64tab), ("internal/strconv.uint64pow10", laid_internal_strconv_uint64pow10), ("strconv.ErrRange", laid_strconv_ErrRange), ("strconv.ErrSyntax", laid_strconv_ErrSyntax)], narrowed := true }
def LinearParseUptoSaid : Prop := linearParseUptoRow.holds Tryz.pinned (OpenSpec.upto linearParseSpec)

/-- 'relucertlaw07.LinearMake', WHERE WHAT IT READS IS OF BULK AT MOST 1048576: true; the input reads as it did. -/
def linearMakeUptoRow : OpenClaim := { program := "ytlpmemelhlnfbaagreatdoor", sum := "43df884307acc70f086a894a7542165d01c742d2fdf7614e50629b62ba449cb2", func := "relucert/relucertlaw07.LinearMake", spec := "linearMake", inPlace := ["internal/bytealg.IndexByteString", "internal/abi.NoEscape", "internal/bytealg.MakeNoZero"], unfollowed := true, recurses := true, named := ["strconv.ErrSyntax", "strconv.ErrRange", "internal/strconv.uint64pow10", "math/bits.deBruijn32tab", "math/bits.deBruijn64tab"], apart := false, laid := [("math/bits.deBruijn32tab", laid_math_bits_deBruijn32tab), ("math/bits.deBruijn64tab", laid_math_bits_deBruijn64tab), ("internal/strconv.uint64pow10", laid_internal_strconv_uint64pow10), ("strconv.ErrRange", laid_strconv_ErrRange), ("strconv.ErrSyntax", laid_strconv_ErrSyntax)], narrowed := true }
def LinearMakeUptoSaid : Prop := linearMakeUptoRow.holds Tryz.pinned (OpenSpec.upto linearMakeSpec)

end Rows
end Go.Proofs.YtlpmemelhlnfbaaGreatDoor
