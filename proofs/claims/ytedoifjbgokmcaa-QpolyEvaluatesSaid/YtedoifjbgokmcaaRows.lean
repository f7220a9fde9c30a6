/-
  No cell of these rows narrows 'for every input' (looked for: loops, veiled, ifaces, maps, wideKeys, modest, calm, conditions, laid).
  DERIVED. THE GIVEN ROWS OF THIS SEAT. 3 by the template 'for every input the law returns true; each argument reads behind the call as it read before'; 0 by the template 'total and deterministic' (their statements: YtedoifjbgokmcaaTotals.lean).
  GIVEN WITH THE SEED: the statements are not yours to turn. If you find one false, say at which input.
  Laid BY PROGRAM, IN A SANDBOX (cutbox-rows.mjs): the forced cells as the released guide's own fill.sh prints them over the translation 9d426a51b5b9d809… (all of the seat's roots in one cut). By AI agents, Wed Nov 11 2026. No macro, syntax, notation, axiom, sorry.
-/
import Derived.Test.YtedoifjbgokmcaaChecked
import GoSem.Claim
import GoSem.ClaimJoined
import GoSem.ClaimMapViews
import Derived.JoinedTies
import Derived.KernelRfl
namespace Go.Proofs.Ytedoifjbgokmcaa
/- THE CELL 'sum', in the pinned program and in every row, IS THE sha256 OF THE DUMP (.gsa) THAT YtedoifjbgokmcaaProg.lean LOADS. Nothing in Lean hashes anything: it is a label: what it is worth is what the hold of that sum in a sandbox is worth. -/
noncomputable def Try.pinned : Pinned := { name := "ytedoifjbgokmcaa", sum := "9d426a51b5b9d8093d816729a6ab86cc875bf002d41800dbd8a7e46778054f30", checked := Try.checked }
namespace Rows
def none {H : Type} : Left H := { results := [], args := [] }

/-- 'halfplanelaw06.QpolyDivides': WHATEVER THE INPUT: true; the input reads as it did. -/
def qpolyDividesSpec : ChangeSpec := { name := "qpolyDivides", fn := fun _ => fun
  | [d1, d2] => { results := [.lit (.bool true)], args := [d1, d2] }
  | _ => none }
def qpolyDividesRow : OpenClaim := { program := "ytedoifjbgokmcaa", sum := "9d426a51b5b9d8093d816729a6ab86cc875bf002d41800dbd8a7e46778054f30", func := "halfplane/halfplanelaw06.QpolyDivides", spec := "qpolyDivides", unfollowed := true, recurses := true, named := ["math/bits.overflowError"], apart := false }
def QpolyDividesSaid : Prop := qpolyDividesRow.holds Try.pinned (OpenSpec.ofChange qpolyDividesSpec)

/-- ITS FALSE NEIGHBOUR: 'it returns false'. Refute it at one input. -/
def qpolyDividesWrong : ChangeSpec := { name := "qpolyDivides", fn := fun _ => fun
  | [d1, d2] => { results := [.lit (.bool false)], args := [d1, d2] }
  | _ => none }
def QpolyDividesWrongFalsely : Prop := qpolyDividesRow.holds Try.pinned (OpenSpec.ofChange qpolyDividesWrong)

/-- 'halfplanelaw06.QpolyNewton': WHATEVER THE INPUT: true; the input reads as it did. -/
def qpolyNewtonSpec : ChangeSpec := { name := "qpolyNewton", fn := fun _ => fun
  | [d1, d2] => { results := [.lit (.bool true)], args := [d1, d2] }
  | _ => none }
def qpolyNewtonRow : OpenClaim := { program := "ytedoifjbgokmcaa", sum := "9d426a51b5b9d8093d816729a6ab86cc875bf002d41800dbd8a7e46778054f30", func := "halfplane/halfplanelaw06.QpolyNewton", spec := "qpolyNewton", unfollowed := true, recurses := true, named := ["math/bits.overflowError"], apart := false }
def QpolyNewtonSaid : Prop := qpolyNewtonRow.holds Try.pinned (OpenSpec.ofChange qpolyNewtonSpec)

/-- ITS FALSE NEIGHBOUR: 'it returns false'. Refute it at one input. -/
def qpolyNewtonWrong : ChangeSpec := { name := "qpolyNewton", fn := fun _ => fun
  | [d1, d2] => { results := [.lit (.bool false)], args := [d1, d2] }
  | _ => none }
def QpolyNewtonWrongFalsely : Prop := qpolyNewtonRow.holds Try.pinned (OpenSpec.ofChange qpolyNewtonWrong)

/-- 'halfplanelaw06.QpolyEvaluates': WHATEVER THE INPUT: true; the input reads as it did. -/
def qpolyEvaluatesSpec : ChangeSpec := { name := "qpolyEvaluates", fn := fun _ => fun
  | [d1, d2, d3] => { results := [.lit (.bool true)], args := [d1, d2, d3] }
  | _ => none }
def qpolyEvaluatesRow : OpenClaim := { program := "ytedoifjbgokmcaa", sum := "9d426a51b5b9d8093d816729a6ab86cc875bf002d41800dbd8a7e46778054f30", func := "halfplane/halfplanelaw06.QpolyEvaluates", spec := "qpolyEvaluates", unfollowed := true, recurses := true, named := ["math/bits.overflowError"], apart := false }
def QpolyEvaluatesSaid : Prop := qpolyEvaluatesRow.holds Try.pinned (OpenSpec.ofChange qpolyEvaluatesSpec)

/-- ITS FALSE NEIGHBOUR: 'it returns false'. Refute it at one input. -/
def qpolyEvaluatesWrong : ChangeSpec := { name := "qpolyEvaluates", fn := fun _ => fun
  | [d1, d2, d3] => { results := [.lit (.bool false)], args := [d1, d2, d3] }
  | _ => none }
def QpolyEvaluatesWrongFalsely : Prop := qpolyEvaluatesRow.holds Try.pinned (OpenSpec.ofChange qpolyEvaluatesWrong)

/- THE SECOND FORM. 'bulk': how many values and letters a reading holds, each counted each time it is reached (what is shared counts as often as it is met; a slice's spare places count too). A statement '..UptoSaid' is the law's where the arguments, and the package variables that the reading takes, are together of bulk at most 1048576: NARROWER than '..Said'. Prove '..Said' where nothing that the law and all that it calls make is longer than what came in: it says more and counts as full. Else prove '..UptoSaid'. A law counts once. -/
mutual
def uptoBulk {H : Type} : DataW H → Nat
  | .lit (.string bytes) => bytes.length + 1
  | .lit _ => 1
  | .nil => 1
  | .ptr d => uptoBulk d + 1
  | .slice elems spare => uptoBulkAll elems + uptoBulkAll spare + 1
  | .agg parts => uptoBulkAll parts + 1
  | .iface _ d => uptoBulk d + 1
  | .map entries => uptoBulkEntries entries + 1
  | .held _ => 1
def uptoBulkAll {H : Type} : List (DataW H) → Nat
  | [] => 0
  | d :: r => uptoBulk d + uptoBulkAll r
def uptoBulkEntries {H : Type} : List (Lit × DataW H) → Nat
  | [] => 0
  | x :: r => uptoBulkEntry x + uptoBulkEntries r
def uptoBulkEntry {H : Type} : Lit × DataW H → Nat
  | (.string bytes, d) => bytes.length + uptoBulk d + 1
  | (_, d) => uptoBulk d + 1
 end
def uptoSmall : (H : Type) → List (DataW H) → Bool := fun _ ds => decide (uptoBulkAll ds ≤ 1048576)
def OpenSpec.upto (s : _root_.Go.ChangeSpec) : _root_.Go.OpenSpec := { _root_.Go.OpenSpec.ofChange s with cond := some uptoSmall }

/-- 'halfplanelaw06.QpolyDivides', WHERE WHAT IT READS IS OF BULK AT MOST 1048576: true; the input reads as it did. -/
def qpolyDividesUptoRow : OpenClaim := { program := "ytedoifjbgokmcaa", sum := "9d426a51b5b9d8093d816729a6ab86cc875bf002d41800dbd8a7e46778054f30", func := "halfplane/halfplanelaw06.QpolyDivides", spec := "qpolyDivides", unfollowed := true, recurses := true, named := ["math/bits.overflowError"], apart := false, narrowed := true }
def QpolyDividesUptoSaid : Prop := qpolyDividesUptoRow.holds Try.pinned (OpenSpec.upto qpolyDividesSpec)

/-- 'halfplanelaw06.QpolyNewton', WHERE WHAT IT READS IS OF BULK AT MOST 1048576: true; the input reads as it did. -/
def qpolyNewtonUptoRow : OpenClaim := { program := "ytedoifjbgokmcaa", sum := "9d426a51b5b9d8093d816729a6ab86cc875bf002d41800dbd8a7e46778054f30", func := "halfplane/halfplanelaw06.QpolyNewton", spec := "qpolyNewton", unfollowed := true, recurses := true, named := ["math/bits.overflowError"], apart := false, narrowed := true }
def QpolyNewtonUptoSaid : Prop := qpolyNewtonUptoRow.holds Try.pinned (OpenSpec.upto qpolyNewtonSpec)

/-- 'halfplanelaw06.QpolyEvaluates', WHERE WHAT IT READS IS OF BULK AT MOST 1048576: true; the input reads as it did. -/
def qpolyEvaluatesUptoRow : OpenClaim := { program := "ytedoifjbgokmcaa", sum := "9d426a51b5b9d8093d816729a6ab86cc875bf002d41800dbd8a7e46778054f30", func := "halfplane/halfplanelaw06.QpolyEvaluates", spec := "qpolyEvaluates", unfollowed := true, recurses := true, named := ["math/bits.overflowError"], apart := false, narrowed := true }
def QpolyEvaluatesUptoSaid : Prop := qpolyEvaluatesUptoRow.holds Try.pinned (OpenSpec.upto qpolyEvaluatesSpec)

end Rows
end Go.Proofs.Ytedoifjbgokmcaa
