/-
  NARROWER THAN 'FOR EVERY INPUT', by the rows' own cells (each row's printed sentence says how): ZpolyContents: laid · ZpolyResultants: laid · ZpolyDivides: laid · ZpolyOperations: laid · ZpolyGcds: laid · ZpolyEvaluates: laid · ZpolySquareFree: laid · ZpolyStrings: laid.
  DERIVED. THE GIVEN ROWS OF THIS SEAT. 8 by the template 'for every input the law returns true; each argument reads behind the call as it read before'; 0 by the template 'total and deterministic' (their statements: YtfacbpnegkjcgaaGreatDoorTotals.lean).
  GIVEN WITH THE SEED: the statements are not yours to turn. If you find one false, say at which input.
  Laid BY PROGRAM, IN A SANDBOX (cutbox-rows.mjs): the forced cells as the released guide's own fill.sh prints them over the translation 6011ae5668b76dfe… (all of the seat's roots in one cut). By AI agents, Wed Nov 11 2026. No macro, syntax, notation, axiom, sorry.
-/
import Derived.Test.YtfacbpnegkjcgaaGreatDoorChecked
import GoSem.Claim
import GoSem.ClaimJoined
import GoSem.ClaimMapViews
import Derived.JoinedTies
import Derived.KernelRfl
namespace Go.Proofs.YtfacbpnegkjcgaaGreatDoor
/- THE CELL 'sum', in the pinned program and in every row, IS THE sha256 OF THE DUMP (.gsa) THAT YtfacbpnegkjcgaaGreatDoorProg.lean LOADS. Nothing in Lean hashes anything: it is a label: what it is worth is what the hold of that sum in a sandbox is worth. -/
noncomputable def Tryz.pinned : Pinned := { name := "ytfacbpnegkjcgaagreatdoor", sum := "6011ae5668b76dfe7cd2148e8151020ef3b7c786c57406bde2d14b0bf719e6f2", checked := Tryz.checked }
namespace Rows
def none {H : Type} : Left H := { results := [], args := [] }

/- WHAT THE LISTED PACKAGE-LEVEL VARIABLES READ AS WHEN THE CALL BEGINS. Each datum BY PROGRAM (the guide's laid-datum.mjs) off the statement by which the dump's own 'gosem.cut.vars' lays the variable. In a bare row this is a premise. The card (YtfacbpnegkjcgaaGreatDoorCards.lean) ties it to the program's text. -/
def laid_math_bits_deBruijn32tab {H : Type} : DataW H := .agg [.lit (.int .u8 0), .lit (.int .u8 1), .lit (.int .u8 28), .lit (.int .u8 2), .lit (.int .u8 29), .lit (.int .u8 14), .lit (.int .u8 24), .lit (.int .u8 3), .lit (.int .u8 30), .lit (.int .u8 22), .lit (.int .u8 20), .lit (.int .u8 15), .lit (.int .u8 25), .lit (.int .u8 17), .lit (.int .u8 4), .lit (.int .u8 8), .lit (.int .u8 31), .lit (.int .u8 27), .lit (.int .u8 13), .lit (.int .u8 23), .lit (.int .u8 21), .lit (.int .u8 19), .lit (.int .u8 16), .lit (.int .u8 7), .lit (.int .u8 26), .lit (.int .u8 12), .lit (.int .u8 18), .lit (.int .u8 6), .lit (.int .u8 11), .lit (.int .u8 5), .lit (.int .u8 10), .lit (.int .u8 9)]
def laid_math_bits_deBruijn64tab {H : Type} : DataW H := .agg [.lit (.int .u8 0), .lit (.int .u8 1), .lit (.int .u8 56), .lit (.int .u8 2), .lit (.int .u8 57), .lit (.int .u8 49), .lit (.int .u8 28), .lit (.int .u8 3), .lit (.int .u8 61), .lit (.int .u8 58), .lit (.int .u8 42), .lit (.int .u8 50), .lit (.int .u8 38), .lit (.int .u8 29), .lit (.int .u8 17), .lit (.int .u8 4), .lit (.int .u8 62), .lit (.int .u8 47), .lit (.int .u8 59), .lit (.int .u8 36), .lit (.int .u8 45), .lit (.int .u8 43), .lit (.int .u8 51), .lit (.int .u8 22), .lit (.int .u8 53), .lit (.int .u8 39), .lit (.int .u8 33), .lit (.int .u8 30), .lit (.int .u8 24), .lit (.int .u8 18), .lit (.int .u8 12), .lit (.int .u8 5), .lit (.int .u8 63), .lit (.int .u8 55), .lit (.int .u8 48), .lit (.int .u8 27), .lit (.int .u8 60), .lit (.int .u8 41), .lit (.int .u8 37), .lit (.int .u8 16), .lit (.int .u8 46), .lit (.int .u8 35), .lit (.int .u8 44), .lit (.int .u8 21), .lit (.int .u8 52), .lit (.int .u8 32), .lit (.int .u8 23), .lit (.int .u8 11), .lit (.int .u8 54), .lit (.int .u8 26), .lit (.int .u8 40), .lit (.int .u8 15), .lit (.int .u8 34), .lit (.int .u8 20), .lit (.int .u8 31), .lit (.int .u8 10), .lit (.int .u8 25), .lit (.int .u8 14), .lit (.int .u8 19), .lit (.int .u8 9), .lit (.int .u8 13), .lit (.int .u8 8), .lit (.int .u8 7), .lit (.int .u8 6)]
def laid_internal_strconv_uint64pow10 {H : Type} : DataW H := .agg [.lit (.int .u64 1), .lit (.int .u64 10), .lit (.int .u64 100), .lit (.int .u64 1000), .lit (.int .u64 10000), .lit (.int .u64 100000), .lit (.int .u64 1000000), .lit (.int .u64 10000000), .lit (.int .u64 100000000), .lit (.int .u64 1000000000), .lit (.int .u64 10000000000), .lit (.int .u64 100000000000), .lit (.int .u64 1000000000000), .lit (.int .u64 10000000000000), .lit (.int .u64 100000000000000), .lit (.int .u64 1000000000000000), .lit (.int .u64 10000000000000000), .lit (.int .u64 100000000000000000), .lit (.int .u64 1000000000000000000), .lit (.int .u64 10000000000000000000)]

/-- 'halfplanelaw05.ZpolyContents': WHATEVER THE INPUT: true; the input reads as it did. -/
def zpolyContentsSpec : ChangeSpec := { name := "zpolyContents", fn := fun _ => fun
  | [d1, d2] => { results := [.lit (.bool true)], args := [d1, d2] }
  | _ => none }
def zpolyContentsRow : OpenClaim := { program := "ytfacbpnegkjcgaagreatdoor", sum := "6011ae5668b76dfe7cd2148e8151020ef3b7c786c57406bde2d14b0bf719e6f2", func := "halfplane/halfplanelaw05.ZpolyContents", spec := "zpolyContents", inPlace := ["internal/abi.NoEscape"], unfollowed := true, recurses := true, named := ["math/bits.overflowError", "internal/strconv.uint64pow10", "math/bits.deBruijn32tab", "math/bits.deBruijn64tab"], apart := false, laid := [("math/bits.deBruijn32tab", laid_math_bits_deBruijn32tab), ("math/bits.deBruijn64tab", laid_math_bits_deBruijn64tab), ("internal/strconv.uint64pow10", laid_internal_strconv_uint64pow10)] }
def ZpolyContentsSaid : Prop := zpolyContentsRow.holds Tryz.pinned (OpenSpec.ofChange zpolyContentsSpec)

/-- ITS FALSE NEIGHBOUR: 'it returns false'. Refute it at one input. -/
def zpolyContentsWrong : ChangeSpec := { name := "zpolyContents", fn := fun _ => fun
  | [d1, d2] => { results := [.lit (.bool false)], args := [d1, d2] }
  | _ => none }
def ZpolyContentsWrongFalsely : Prop := zpolyContentsRow.holds Tryz.pinned (OpenSpec.ofChange zpolyContentsWrong)

/-- 'halfplanelaw05.ZpolyResultants': WHATEVER THE INPUT: true; the input reads as it did. -/
def zpolyResultantsSpec : ChangeSpec := { name := "zpolyResultants", fn := fun _ => fun
  | [d1, d2] => { results := [.lit (.bool true)], args := [d1, d2] }
  | _ => none }
def zpolyResultantsRow : OpenClaim := { program := "ytfacbpnegkjcgaagreatdoor", sum := "6011ae5668b76dfe7cd2148e8151020ef3b7c786c57406bde2d14b0bf719e6f2", func := "halfplane/halfplanelaw05.ZpolyResultants", spec := "zpolyResultants", inPlace := ["internal/abi.NoEscape"], unfollowed := true, recurses := true, named := ["math/bits.overflowError", "internal/strconv.uint64pow10", "math/bits.deBruijn32tab", "math/bits.deBruijn64tab"], apart := false, laid := [("math/bits.deBruijn32tab", laid_math_bits_deBruijn32tab), ("math/bits.deBruijn64tab", laid_math_bits_deBruijn64tab), ("internal/strconv.uint64pow10", laid_internal_strconv_uint64pow10)] }
def ZpolyResultantsSaid : Prop := zpolyResultantsRow.holds Tryz.pinned (OpenSpec.ofChange zpolyResultantsSpec)

/-- ITS FALSE NEIGHBOUR: 'it returns false'. Refute it at one input. -/
def zpolyResultantsWrong : ChangeSpec := { name := "zpolyResultants", fn := fun _ => fun
  | [d1, d2] => { results := [.lit (.bool false)], args := [d1, d2] }
  | _ => none }
def ZpolyResultantsWrongFalsely : Prop := zpolyResultantsRow.holds Tryz.pinned (OpenSpec.ofChange zpolyResultantsWrong)

/-- 'halfplanelaw05.ZpolyDivides': WHATEVER THE INPUT: true; the input reads as it did. -/
def zpolyDividesSpec : ChangeSpec := { name := "zpolyDivides", fn := fun _ => fun
  | [d1, d2] => { results := [.lit (.bool true)], args := [d1, d2] }
  | _ => none }
def zpolyDividesRow : OpenClaim := { program := "ytfacbpnegkjcgaagreatdoor", sum := "6011ae5668b76dfe7cd2148e8151020ef3b7c786c57406bde2d14b0bf719e6f2", func := "halfplane/halfplanelaw05.ZpolyDivides", spec := "zpolyDivides", inPlace := ["internal/abi.NoEscape"], unfollowed := true, recurses := true, named := ["math/bits.overflowError", "internal/strconv.uint64pow10", "math/bits.deBruijn32tab", "math/bits.deBruijn64tab"], apart := false, laid := [("math/bits.deBruijn32tab", laid_math_bits_deBruijn32tab), ("math/bits.deBruijn64tab", laid_math_bits_deBruijn64tab), ("internal/strconv.uint64pow10", laid_internal_strconv_uint64pow10)] }
def ZpolyDividesSaid : Prop := zpolyDividesRow.holds Tryz.pinned (OpenSpec.ofChange zpolyDividesSpec)

/-- ITS FALSE NEIGHBOUR: 'it returns false'. Refute it at one input. -/
def zpolyDividesWrong : ChangeSpec := { name := "zpolyDivides", fn := fun _ => fun
  | [d1, d2] => { results := [.lit (.bool false)], args := [d1, d2] }
  | _ => none }
def ZpolyDividesWrongFalsely : Prop := zpolyDividesRow.holds Tryz.pinned (OpenSpec.ofChange zpolyDividesWrong)

/-- 'halfplanelaw05.ZpolyOperations': WHATEVER THE INPUT: true; the input reads as it did. -/
def zpolyOperationsSpec : ChangeSpec := { name := "zpolyOperations", fn := fun _ => fun
  | [d1, d2, d3] => { results := [.lit (.bool true)], args := [d1, d2, d3] }
  | _ => none }
def zpolyOperationsRow : OpenClaim := { program := "ytfacbpnegkjcgaagreatdoor", sum := "6011ae5668b76dfe7cd2148e8151020ef3b7c786c57406bde2d14b0bf719e6f2", func := "halfplane/halfplanelaw05.ZpolyOperations", spec := "zpolyOperations", inPlace := ["internal/abi.NoEscape"], unfollowed := true, recurses := true, named := ["math/bits.overflowError", "internal/strconv.uint64pow10", "math/bits.deBruijn32tab", "math/bits.deBruijn64tab"], apart := false, laid := [("math/bits.deBruijn32tab", laid_math_bits_deBruijn32tab), ("math/bits.deBruijn64tab", laid_math_bits_deBruijn64tab), ("internal/strconv.uint64pow10", laid_internal_strconv_uint64pow10)] }
def ZpolyOperationsSaid : Prop := zpolyOperationsRow.holds Tryz.pinned (OpenSpec.ofChange zpolyOperationsSpec)

/-- ITS FALSE NEIGHBOUR: 'it returns false'. Refute it at one input. -/
def zpolyOperationsWrong : ChangeSpec := { name := "zpolyOperations", fn := fun _ => fun
  | [d1, d2, d3] => { results := [.lit (.bool false)], args := [d1, d2, d3] }
  | _ => none }
def ZpolyOperationsWrongFalsely : Prop := zpolyOperationsRow.holds Tryz.pinned (OpenSpec.ofChange zpolyOperationsWrong)

/-- 'halfplanelaw05.ZpolyGcds': WHATEVER THE INPUT: true; the input reads as it did. -/
def zpolyGcdsSpec : ChangeSpec := { name := "zpolyGcds", fn := fun _ => fun
  | [d1, d2, d3] => { results := [.lit (.bool true)], args := [d1, d2, d3] }
  | _ => none }
def zpolyGcdsRow : OpenClaim := { program := "ytfacbpnegkjcgaagreatdoor", sum := "6011ae5668b76dfe7cd2148e8151020ef3b7c786c57406bde2d14b0bf719e6f2", func := "halfplane/halfplanelaw05.ZpolyGcds", spec := "zpolyGcds", inPlace := ["internal/abi.NoEscape"], unfollowed := true, recurses := true, named := ["math/bits.overflowError", "internal/strconv.uint64pow10", "math/bits.deBruijn32tab", "math/bits.deBruijn64tab"], apart := false, laid := [("math/bits.deBruijn32tab", laid_math_bits_deBruijn32tab), ("math/bits.deBruijn64tab", laid_math_bits_deBruijn64tab), ("internal/strconv.uint64pow10", laid_internal_strconv_uint64pow10)] }
def ZpolyGcdsSaid : Prop := zpolyGcdsRow.holds Tryz.pinned (OpenSpec.ofChange zpolyGcdsSpec)

/-- ITS FALSE NEIGHBOUR: 'it returns false'. Refute it at one input. -/
def zpolyGcdsWrong : ChangeSpec := { name := "zpolyGcds", fn := fun _ => fun
  | [d1, d2, d3] => { results := [.lit (.bool false)], args := [d1, d2, d3] }
  | _ => none }
def ZpolyGcdsWrongFalsely : Prop := zpolyGcdsRow.holds Tryz.pinned (OpenSpec.ofChange zpolyGcdsWrong)

/-- 'halfplanelaw05.ZpolyEvaluates': WHATEVER THE INPUT: true; the input reads as it did. -/
def zpolyEvaluatesSpec : ChangeSpec := { name := "zpolyEvaluates", fn := fun _ => fun
  | [d1, d2, d3] => { results := [.lit (.bool true)], args := [d1, d2, d3] }
  | _ => none }
def zpolyEvaluatesRow : OpenClaim := { program := "ytfacbpnegkjcgaagreatdoor", sum := "6011ae5668b76dfe7cd2148e8151020ef3b7c786c57406bde2d14b0bf719e6f2", func := "halfplane/halfplanelaw05.ZpolyEvaluates", spec := "zpolyEvaluates", inPlace := ["internal/abi.NoEscape"], unfollowed := true, recurses := true, named := ["math/bits.overflowError", "internal/strconv.uint64pow10", "math/bits.deBruijn32tab", "math/bits.deBruijn64tab"], apart := false, laid := [("math/bits.deBruijn32tab", laid_math_bits_deBruijn32tab), ("math/bits.deBruijn64tab", laid_math_bits_deBruijn64tab), ("internal/strconv.uint64pow10", laid_internal_strconv_uint64pow10)] }
def ZpolyEvaluatesSaid : Prop := zpolyEvaluatesRow.holds Tryz.pinned (OpenSpec.ofChange zpolyEvaluatesSpec)

/-- ITS FALSE NEIGHBOUR: 'it returns false'. Refute it at one input. -/
def zpolyEvaluatesWrong : ChangeSpec := { name := "zpolyEvaluates", fn := fun _ => fun
  | [d1, d2, d3] => { results := [.lit (.bool false)], args := [d1, d2, d3] }
  | _ => none }
def ZpolyEvaluatesWrongFalsely : Prop := zpolyEvaluatesRow.holds Tryz.pinned (OpenSpec.ofChange zpolyEvaluatesWrong)

/-- 'halfplanelaw05.ZpolySquareFree': WHATEVER THE INPUT: true; the input reads as it did. -/
def zpolySquareFreeSpec : ChangeSpec := { name := "zpolySquareFree", fn := fun _ => fun
  | [d] => { results := [.lit (.bool true)], args := [d] }
  | _ => none }
def zpolySquareFreeRow : OpenClaim := { program := "ytfacbpnegkjcgaagreatdoor", sum := "6011ae5668b76dfe7cd2148e8151020ef3b7c786c57406bde2d14b0bf719e6f2", func := "halfplane/halfplanelaw05.ZpolySquareFree", spec := "zpolySquareFree", inPlace := ["internal/abi.NoEscape"], unfollowed := true, recurses := true, named := ["math/bits.overflowError", "internal/strconv.uint64pow10", "math/bits.deBruijn32tab", "math/bits.deBruijn64tab"], apart := false, laid := [("math/bits.deBruijn32tab", laid_math_bits_deBruijn32tab), ("math/bits.deBruijn64tab", laid_math_bits_deBruijn64tab), ("internal/strconv.uint64pow10", laid_internal_strconv_uint64pow10)] }
def ZpolySquareFreeSaid : Prop := zpolySquareFreeRow.holds Tryz.pinned (OpenSpec.ofChange zpolySquareFreeSpec)

/-- ITS FALSE NEIGHBOUR: 'it returns false'. Refute it at one input. -/
def zpolySquareFreeWrong : ChangeSpec := { name := "zpolySquareFree", fn := fun _ => fun
  | [d] => { results := [.lit (.bool false)], args := [d] }
  | _ => none }
def ZpolySquareFreeWrongFalsely : Prop := zpolySquareFreeRow.holds Tryz.pinned (OpenSpec.ofChange zpolySquareFreeWrong)

/-- 'halfplanelaw05.ZpolyStrings': WHATEVER THE INPUT: true; the input reads as it did. -/
def zpolyStringsSpec : ChangeSpec := { name := "zpolyStrings", fn := fun _ => fun
  | [d1, d2] => { results := [.lit (.bool true)], args := [d1, d2] }
  | _ => none }
def zpolyStringsRow : OpenClaim := { program := "ytfacbpnegkjcgaagreatdoor", sum := "6011ae5668b76dfe7cd2148e8151020ef3b7c786c57406bde2d14b0bf719e6f2", func := "halfplane/halfplanelaw05.ZpolyStrings", spec := "zpolyStrings", inPlace := ["internal/abi.NoEscape"], unfollowed := true, recurses := true, named := ["math/bits.overflowError", "internal/strconv.uint64pow10", "math/bits.deBruijn32tab", "math/bits.deBruijn64tab"], apart := false, laid := [("math/bits.deBruijn32tab", laid_math_bits_deBruijn32tab), ("math/bits.deBruijn64tab", laid_math_bits_deBruijn64tab), ("internal/strconv.uint64pow10", laid_internal_strconv_uint64pow10)] }
def ZpolyStringsSaid : Prop := zpolyStringsRow.holds Tryz.pinned (OpenSpec.ofChange zpolyStringsSpec)

/-- ITS FALSE NEIGHBOUR: 'it returns false'. Refute it at one input. -/
def zpolyStringsWrong : ChangeSpec := { name := "zpolyStrings", fn := fun _ => fun
  | [d1, d2] => { results := [.lit (.bool false)], args := [d1, d2] }
  | _ => none }
def ZpolyStringsWrongFalsely : Prop := zpolyStringsRow.holds Tryz.pinned (OpenSpec.ofChange zpolyStringsWrong)

/- THE SECOND FORM. 'bulk': how many values and letters a reading holds, each counted each time it is reached (what is shared counts as often as it is met; a slice's spare places count too). A statement '..UptoSaid' is the law's where the arguments, and the package variables that the reading takes, are together of bulk at most 1048576: NARROWER than '..Said'. Prove '..Said' where nothing that the law and all that it calls make is longer than what came in: it says more and counts as full. Else prove '..UptoSaid'. A law counts once. -/
mutual
def uptoBulk {H : Type} : DataW H → Nat
  | .lit (.string bytes) => bytes.length + 1
  | .lit _ => 1
  | .nil => 1
  | .ptr d => uptoBulk d + 1
  | .slice elems spare => uptoBulkAll elems + uptoBulkAll spare + 1
  | .agg parts => uptoBulkAll parts + 1
  | .iface _ d => uptoBulk d + 1
  | .map entries => uptoBulkEntries entries + 1
  | .held _ => 1
def uptoBulkAll {H : Type} : List (DataW H) → Nat
  | [] => 0
  | d :: r => uptoBulk d + uptoBulkAll r
def uptoBulkEntries {H : Type} : List (Lit × DataW H) → Nat
  | [] => 0
  | x :: r => uptoBulkEntry x + uptoBulkEntries r
def uptoBulkEntry {H : Type} : Lit × DataW H → Nat
  | (.string bytes, d) => bytes.length + uptoBulk d + 1
  | (_, d) => uptoBulk d + 1
 end
def uptoSmall : (H : Type) → List (DataW H) → Bool := fun _ ds => decide (uptoBulkAll ds ≤ 1048576)
def OpenSpec.upto (s : _root_.Go.ChangeSpec) : _root_.Go.OpenSpec := { _root_.Go.OpenSpec.ofChange s with cond := some uptoSmall }

/-- 'halfplanelaw05.ZpolyContents', WHERE WHAT IT READS IS OF BULK AT MOST 1048576: true; the input reads as it did. -/
def zpolyContentsUptoRow : OpenClaim := { program := "ytfacbpnegkjcgaagreatdoor", sum := "6011ae5668b76dfe7cd2148e8151020ef3b7c786c57406bde2d14b0bf719e6f2", func := "halfplane/halfplanelaw05.ZpolyContents", spec := "zpolyContents", inPlace := ["internal/abi.NoEscape"], unfollowed := true, recurses := true, named := ["math/bits.overflowError", "internal/strconv.uint64pow10", "math/bits.deBruijn32tab", "math/bits.deBruijn64tab"], apart := false, laid := [("math/bits.deBruijn32tab", laid_math_bits_deBruijn32tab), ("math/bits.deBruijn64tab", laid_math_bits_deBruijn64tab), ("internal/strconv.uint64pow10", laid_internal_strconv_uint64pow10)], narrowed := true }
def ZpolyContentsUptoSaid : Prop := zpolyContentsUptoRow.holds Tryz.pinned (OpenSpec.upto zpolyContentsSpec)

/-- 'halfplanelaw05.ZpolyResultants', WHERE WHAT IT READS IS OF BULK AT MOST 1048576: true; the input reads as it did. -/
def zpolyResultantsUptoRow : OpenClaim := { program := "ytfacbpnegkjcgaagreatdoor", sum := "6011ae5668b76dfe7cd2148e8151020ef3b7c786c57406bde2d14b0bf719e6f2", func := "halfplane/halfplanelaw05.ZpolyResultants", spec := "zpolyResultants", inPlace := ["internal/abi.NoEscape"], unfollowed := true, recurses := true, named := ["math/bits.overflowError", "internal/strconv.uint64pow10", "math/bits.deBruijn32tab", "math/bits.deBruijn64tab"], apart := false, laid := [("math/bits.deBruijn32tab", laid_math_bits_deBruijn32tab), ("math/bits.deBruijn64tab", laid_math_bits_deBruijn64tab), ("internal/strconv.uint64pow10", laid_internal_strconv_uint64pow10)], narrowed := true }
def ZpolyResultantsUptoSaid : Prop := zpolyResultantsUptoRow.holds Tryz.pinned (OpenSpec.upto zpolyResultantsSpec)

/-- 'halfplanelaw05.ZpolyDivides', WHERE WHAT IT READS IS OF BULK AT MOST 1048576: true; the input reads as it did. -/
def zpolyDividesUptoRow : OpenClaim := { program := "ytfacbpnegkjcgaagreatdoor", sum := "6011ae5668b76dfe7cd2148e8151020ef3b7c786c57406bde2d14b0bf719e6f2", func := "halfplane/halfplanelaw05.ZpolyDivides", spec := "zpolyDivides", inPlace := ["internal/abi.NoEscape"], unfollowed := true, recurses := true, named := ["math/bits.overflowError", "internal/strconv.uint64pow10", "math/bits.deBruijn32tab", "math/bits.deBruijn64tab"], apart := false, laid := [("math/bits.deBruijn32tab", laid_math_bits_deBruijn32tab), ("math/bits.deBruijn64tab", laid_math_bits_deBruijn64tab), ("internal/strconv.uint64pow10", laid_internal_strconv_uint64pow10)], narrowed := true }
def ZpolyDividesUptoSaid : Prop := zpolyDividesUptoRow.holds Tryz.pinned (OpenSpec.upto zpolyDividesSpec)

/-- 'halfplanelaw05.ZpolyOperations', WHERE WHAT IT READS IS OF BULK AT MOST 1048576: true; the input reads as it did. -/
def zpolyOperationsUptoRow : OpenClaim := { program := "ytfacbpnegkjcgaagreatdoor", sum := "6011ae5668b76dfe7cd2148e8151020ef3b7c786c57406bde2d14b0bf719e6f2", func := "halfplane/halfplanelaw05.ZpolyOperations", spec := "zpolyOperations", inPlace := ["internal/abi.NoEscape"], unfollowed := true, recurses := true, named := ["math/bits.overflowError", "internal/strconv.uint64pow10", "math/bits.deBruijn32tab", "math/bits.deBruijn64tab"], apart := false, laid := [("math/bits.deBruijn32tab", laid_math_bits_deBruijn32tab), ("math/bits.deBruijn64tab", laid_math_bits_deBruijn64tab), ("internal/strconv.uint64pow10", laid_internal_strconv_uint64pow10)], narrowed := true }
def ZpolyOperationsUptoSaid : Prop := zpolyOperationsUptoRow.holds Tryz.pinned (OpenSpec.upto zpolyOperationsSpec)

/-- 'halfplanelaw05.ZpolyGcds', WHERE WHAT IT READS IS OF BULK AT MOST 1048576: true; the input reads as it did. -/
def zpolyGcdsUptoRow : OpenClaim := { program := "ytfacbpnegkjcgaagreatdoor", sum := "6011ae5668b76dfe7cd2148e8151020ef3b7c786c57406bde2d14b0bf719e6f2", func := "halfplane/halfplanelaw05.ZpolyGcds", spec := "zpolyGcds", inPlace := ["internal/abi.NoEscape"], unfollowed := true, recurses := true, named := ["math/bits.overflowError", "internal/strconv.uint64pow10", "math/bits.deBruijn32tab", "math/bits.deBruijn64tab"], apart := false, laid := [("math/bits.deBruijn32tab", laid_math_bits_deBruijn32tab), ("math/bits.deBruijn64tab", laid_math_bits_deBruijn64tab), ("internal/strconv.uint64pow10", laid_internal_strconv_uint64pow10)], narrowed := true }
def ZpolyGcdsUptoSaid : Prop := zpolyGcdsUptoRow.holds Tryz.pinned (OpenSpec.upto zpolyGcdsSpec)

/-- 'halfplanelaw05.ZpolyEvaluates', WHERE WHAT IT READS IS OF BULK AT MOST 1048576: true; the input reads as it did. -/
def zpolyEvaluatesUptoRow : OpenClaim := { program := "ytfacbpnegkjcgaagreatdoor", sum := "6011ae5668b76dfe7cd2148e8151020ef3b7c786c57406bde2d14b0bf719e6f2", func := "halfplane/halfplanelaw05.ZpolyEvaluates", spec := "zpolyEvaluates", inPlace := ["internal/abi.NoEscape"], unfollowed := true, recurses := true, named := ["math/bits.overflowError", "internal/strconv.uint64pow10", "math/bits.deBruijn32tab", "math/bits.deBruijn64tab"], apart := false, laid := [("math/bits.deBruijn32tab", laid_math_bits_deBruijn32tab), ("math/bits.deBruijn64tab", laid_math_bits_deBruijn64tab), ("internal/strconv.uint64pow10", laid_internal_strconv_uint64pow10)], narrowed := true }
def ZpolyEvaluatesUptoSaid : Prop := zpolyEvaluatesUptoRow.holds Tryz.pinned (OpenSpec.upto zpolyEvaluatesSpec)

/-- 'halfplanelaw05.ZpolySquareFree', WHERE WHAT IT READS IS OF BULK AT MOST 1048576: true; the input reads as it did. -/
def zpolySquareFreeUptoRow : OpenClaim := { program := "ytfacbpnegkjcgaagreatdoor", sum := "6011ae5668b76dfe7cd2148e8151020ef3b7c786c57406bde2d14b0bf719e6f2", func := "halfplane/halfplanelaw05.ZpolySquareFree", spec := "zpolySquareFree", inPlace := ["internal/abi.NoEscape"], unfollowed := true, recurses := true, named := ["math/bits.overflowError", "internal/strconv.uint64pow10", "math/bits.deBruijn32tab", "math/bits.deBruijn64tab"], apart := false, laid := [("math/bits.deBruijn32tab", laid_math_bits_deBruijn32tab), ("math/bits.deBruijn64tab", laid_math_bits_deBruijn64tab), ("internal/strconv.uint64pow10", laid_internal_strconv_uint64pow10)], narrowed := true }
def ZpolySquareFreeUptoSaid : Prop := zpolySquareFreeUptoRow.holds Tryz.pinned (OpenSpec.upto zpolySquareFreeSpec)

/-- 'halfplanelaw05.ZpolyStrings', WHERE WHAT IT READS IS OF BULK AT MOST 1048576: true; the input reads as it did. -/
def zpolyStringsUptoRow : OpenClaim := { program := "ytfacbpnegkjcgaagreatdoor", sum := "6011ae5668b76dfe7cd2148e8151020ef3b7c786c57406bde2d14b0bf719e6f2", func := "halfplane/halfplanelaw05.ZpolyStrings", spec := "zpolyStrings", inPlace := ["internal/abi.NoEscape"], unfollowed := true, recurses := true, named := ["math/bits.overflowError", "internal/strconv.uint64pow10", "math/bits.deBruijn32tab", "math/bits.deBruijn64tab"], apart := false, laid := [("math/bits.deBruijn32tab", laid_math_bits_deBruijn32tab), ("math/bits.deBruijn64tab", laid_math_bits_deBruijn64tab), ("internal/strconv.uint64pow10", laid_internal_strconv_uint64pow10)], narrowed := true }
def ZpolyStringsUptoSaid : Prop := zpolyStringsUptoRow.holds Tryz.pinned (OpenSpec.upto zpolyStringsSpec)

end Rows
end Go.Proofs.YtfacbpnegkjcgaaGreatDoor
