/-
  No cell of these rows narrows 'for every input' (looked for: loops, veiled, ifaces, maps, wideKeys, modest, calm, conditions, laid).
  DERIVED. THE GIVEN ROWS OF THIS SEAT. 5 by the template 'for every input the law returns true; each argument reads behind the call as it read before'; 0 by the template 'total and deterministic' (their statements: YtedoifjbgokmcaaGreatTotals.lean).
  GIVEN WITH THE SEED: the statements are not yours to turn. If you find one false, say at which input.
  Laid BY PROGRAM, IN A SANDBOX (cutbox-rows.mjs): the forced cells as the released guide's own fill.sh prints them over the translation e5e5fbe64d7b2a84… (all of the seat's roots in one cut). By AI agents, Wed Nov 11 2026. No macro, syntax, notation, axiom, sorry.
-/
import Derived.Test.YtedoifjbgokmcaaGreatChecked
import GoSem.Claim
import GoSem.ClaimJoined
import GoSem.ClaimMapViews
import Derived.JoinedTies
import Derived.KernelRfl
namespace Go.Proofs.YtedoifjbgokmcaaGreat
/- THE CELL 'sum', in the pinned program and in every row, IS THE sha256 OF THE DUMP (.gsa) THAT YtedoifjbgokmcaaGreatProg.lean LOADS. Nothing in Lean hashes anything: it is a label: what it is worth is what the hold of that sum in a sandbox is worth. -/
noncomputable def Tryz.pinned : Pinned := { name := "ytedoifjbgokmcaagreat", sum := "e5e5fbe64d7b2a843346dd42e2eba947c6cdb229bc677415dc944013b8c8489c", checked := Tryz.checked }
namespace Rows
def none {H : Type} : Left H := { results := [], args := [] }

/-- 'halfplanelaw06.QpolyPowerSums': WHATEVER THE INPUT: true; the input reads as it did. -/
def qpolyPowerSumsSpec : ChangeSpec := { name := "qpolyPowerSums", fn := fun _ => fun
  | [d1, d2, d3] => { results := [.lit (.bool true)], args := [d1, d2, d3] }
  | _ => none }
def qpolyPowerSumsRow : OpenClaim := { program := "ytedoifjbgokmcaagreat", sum := "e5e5fbe64d7b2a843346dd42e2eba947c6cdb229bc677415dc944013b8c8489c", func := "halfplane/halfplanelaw06.QpolyPowerSums", spec := "qpolyPowerSums", unfollowed := true, recurses := true, named := ["math/bits.overflowError"], apart := false }
def QpolyPowerSumsSaid : Prop := qpolyPowerSumsRow.holds Tryz.pinned (OpenSpec.ofChange qpolyPowerSumsSpec)

/-- ITS FALSE NEIGHBOUR: 'it returns false'. Refute it at one input. -/
def qpolyPowerSumsWrong : ChangeSpec := { name := "qpolyPowerSums", fn := fun _ => fun
  | [d1, d2, d3] => { results := [.lit (.bool false)], args := [d1, d2, d3] }
  | _ => none }
def QpolyPowerSumsWrongFalsely : Prop := qpolyPowerSumsRow.holds Tryz.pinned (OpenSpec.ofChange qpolyPowerSumsWrong)

/-- 'halfplanelaw06.QpolyOperations': WHATEVER THE INPUT: true; the input reads as it did. -/
def qpolyOperationsSpec : ChangeSpec := { name := "qpolyOperations", fn := fun _ => fun
  | [d1, d2, d3] => { results := [.lit (.bool true)], args := [d1, d2, d3] }
  | _ => none }
def qpolyOperationsRow : OpenClaim := { program := "ytedoifjbgokmcaagreat", sum := "e5e5fbe64d7b2a843346dd42e2eba947c6cdb229bc677415dc944013b8c8489c", func := "halfplane/halfplanelaw06.QpolyOperations", spec := "qpolyOperations", unfollowed := true, recurses := true, named := ["math/bits.overflowError"], apart := false }
def QpolyOperationsSaid : Prop := qpolyOperationsRow.holds Tryz.pinned (OpenSpec.ofChange qpolyOperationsSpec)

/-- ITS FALSE NEIGHBOUR: 'it returns false'. Refute it at one input. -/
def qpolyOperationsWrong : ChangeSpec := { name := "qpolyOperations", fn := fun _ => fun
  | [d1, d2, d3] => { results := [.lit (.bool false)], args := [d1, d2, d3] }
  | _ => none }
def QpolyOperationsWrongFalsely : Prop := qpolyOperationsRow.holds Tryz.pinned (OpenSpec.ofChange qpolyOperationsWrong)

/-- 'halfplanelaw06.QpolyBezout': WHATEVER THE INPUT: true; the input reads as it did. -/
def qpolyBezoutSpec : ChangeSpec := { name := "qpolyBezout", fn := fun _ => fun
  | [d1, d2] => { results := [.lit (.bool true)], args := [d1, d2] }
  | _ => none }
def qpolyBezoutRow : OpenClaim := { program := "ytedoifjbgokmcaagreat", sum := "e5e5fbe64d7b2a843346dd42e2eba947c6cdb229bc677415dc944013b8c8489c", func := "halfplane/halfplanelaw06.QpolyBezout", spec := "qpolyBezout", unfollowed := true, recurses := true, named := ["math/bits.overflowError"], apart := false }
def QpolyBezoutSaid : Prop := qpolyBezoutRow.holds Tryz.pinned (OpenSpec.ofChange qpolyBezoutSpec)

/-- ITS FALSE NEIGHBOUR: 'it returns false'. Refute it at one input. -/
def qpolyBezoutWrong : ChangeSpec := { name := "qpolyBezout", fn := fun _ => fun
  | [d1, d2] => { results := [.lit (.bool false)], args := [d1, d2] }
  | _ => none }
def QpolyBezoutWrongFalsely : Prop := qpolyBezoutRow.holds Tryz.pinned (OpenSpec.ofChange qpolyBezoutWrong)

/-- 'halfplanelaw06.QpolyInterpolates': WHATEVER THE INPUT: true; the input reads as it did. -/
def qpolyInterpolatesSpec : ChangeSpec := { name := "qpolyInterpolates", fn := fun _ => fun
  | [d] => { results := [.lit (.bool true)], args := [d] }
  | _ => none }
def qpolyInterpolatesRow : OpenClaim := { program := "ytedoifjbgokmcaagreat", sum := "e5e5fbe64d7b2a843346dd42e2eba947c6cdb229bc677415dc944013b8c8489c", func := "halfplane/halfplanelaw06.QpolyInterpolates", spec := "qpolyInterpolates", unfollowed := true, recurses := true, named := ["math/bits.overflowError"], apart := false }
def QpolyInterpolatesSaid : Prop := qpolyInterpolatesRow.holds Tryz.pinned (OpenSpec.ofChange qpolyInterpolatesSpec)

/-- ITS FALSE NEIGHBOUR: 'it returns false'. Refute it at one input. -/
def qpolyInterpolatesWrong : ChangeSpec := { name := "qpolyInterpolates", fn := fun _ => fun
  | [d] => { results := [.lit (.bool false)], args := [d] }
  | _ => none }
def QpolyInterpolatesWrongFalsely : Prop := qpolyInterpolatesRow.holds Tryz.pinned (OpenSpec.ofChange qpolyInterpolatesWrong)

/-- 'halfplanelaw06.QpolyClears': WHATEVER THE INPUT: true; the input reads as it did. -/
def qpolyClearsSpec : ChangeSpec := { name := "qpolyClears", fn := fun _ => fun
  | [d1, d2] => { results := [.lit (.bool true)], args := [d1, d2] }
  | _ => none }
def qpolyClearsRow : OpenClaim := { program := "ytedoifjbgokmcaagreat", sum := "e5e5fbe64d7b2a843346dd42e2eba947c6cdb229bc677415dc944013b8c8489c", func := "halfplane/halfplanelaw06.QpolyClears", spec := "qpolyClears", unfollowed := true, recurses := true, named := ["math/bits.overflowError"], apart := false }
def QpolyClearsSaid : Prop := qpolyClearsRow.holds Tryz.pinned (OpenSpec.ofChange qpolyClearsSpec)

/-- ITS FALSE NEIGHBOUR: 'it returns false'. Refute it at one input. -/
def qpolyClearsWrong : ChangeSpec := { name := "qpolyClears", fn := fun _ => fun
  | [d1, d2] => { results := [.lit (.bool false)], args := [d1, d2] }
  | _ => none }
def QpolyClearsWrongFalsely : Prop := qpolyClearsRow.holds Tryz.pinned (OpenSpec.ofChange qpolyClearsWrong)

/- THE SECOND FORM. 'bulk': how many values and letters a reading holds, each counted each time it is reached (what is shared counts as often as it is met; a slice's spare places count too). A statement '..UptoSaid' is the law's where the arguments, and the package variables that the reading takes, are together of bulk at most 1048576: NARROWER than '..Said'. Prove '..Said' where nothing that the law and all that it calls make is longer than what came in: it says more and counts as full. Else prove '..UptoSaid'. A law counts once. -/
mutual
def uptoBulk {H : Type} : DataW H → Nat
  | .lit (.string bytes) => bytes.length + 1
  | .lit _ => 1
  | .nil => 1
  | .ptr d => uptoBulk d + 1
  | .slice elems spare => uptoBulkAll elems + uptoBulkAll spare + 1
  | .agg parts => uptoBulkAll parts + 1
  | .iface _ d => uptoBulk d + 1
  | .map entries => uptoBulkEntries entries + 1
  | .held _ => 1
def uptoBulkAll {H : Type} : List (DataW H) → Nat
  | [] => 0
  | d :: r => uptoBulk d + uptoBulkAll r
def uptoBulkEntries {H : Type} : List (Lit × DataW H) → Nat
  | [] => 0
  | x :: r => uptoBulkEntry x + uptoBulkEntries r
def uptoBulkEntry {H : Type} : Lit × DataW H → Nat
  | (.string bytes, d) => bytes.length + uptoBulk d + 1
  | (_, d) => uptoBulk d + 1
 end
def uptoSmall : (H : Type) → List (DataW H) → Bool := fun _ ds => decide (uptoBulkAll ds ≤ 1048576)
def OpenSpec.upto (s : _root_.Go.ChangeSpec) : _root_.Go.OpenSpec := { _root_.Go.OpenSpec.ofChange s with cond := some uptoSmall }

/-- 'halfplanelaw06.QpolyPowerSums', WHERE WHAT IT READS IS OF BULK AT MOST 1048576: true; the input reads as it did. -/
def qpolyPowerSumsUptoRow : OpenClaim := { program := "ytedoifjbgokmcaagreat", sum := "e5e5fbe64d7b2a843346dd42e2eba947c6cdb229bc677415dc944013b8c8489c", func := "halfplane/halfplanelaw06.QpolyPowerSums", spec := "qpolyPowerSums", unfollowed := true, recurses := true, named := ["math/bits.overflowError"], apart := false, narrowed := true }
def QpolyPowerSumsUptoSaid : Prop := qpolyPowerSumsUptoRow.holds Tryz.pinned (OpenSpec.upto qpolyPowerSumsSpec)

/-- 'halfplanelaw06.QpolyOperations', WHERE WHAT IT READS IS OF BULK AT MOST 1048576: true; the input reads as it did. -/
def qpolyOperationsUptoRow : OpenClaim := { program := "ytedoifjbgokmcaagreat", sum := "e5e5fbe64d7b2a843346dd42e2eba947c6cdb229bc677415dc944013b8c8489c", func := "halfplane/halfplanelaw06.QpolyOperations", spec := "qpolyOperations", unfollowed := true, recurses := true, named := ["math/bits.overflowError"], apart := false, narrowed := true }
def QpolyOperationsUptoSaid : Prop := qpolyOperationsUptoRow.holds Tryz.pinned (OpenSpec.upto qpolyOperationsSpec)

/-- 'halfplanelaw06.QpolyBezout', WHERE WHAT IT READS IS OF BULK AT MOST 1048576: true; the input reads as it did. -/
def qpolyBezoutUptoRow : OpenClaim := { program := "ytedoifjbgokmcaagreat", sum := "e5e5fbe64d7b2a843346dd42e2eba947c6cdb229bc677415dc944013b8c8489c", func := "halfplane/halfplanelaw06.QpolyBezout", spec := "qpolyBezout", unfollowed := true, recurses := true, named := ["math/bits.overflowError"], apart := false, narrowed := true }
def QpolyBezoutUptoSaid : Prop := qpolyBezoutUptoRow.holds Tryz.pinned (OpenSpec.upto qpolyBezoutSpec)

/-- 'halfplanelaw06.QpolyInterpolates', WHERE WHAT IT READS IS OF BULK AT MOST 1048576: true; the input reads as it did. -/
def qpolyInterpolatesUptoRow : OpenClaim := { program := "ytedoifjbgokmcaagreat", sum := "e5e5fbe64d7b2a843346dd42e2eba947c6cdb229bc677415dc944013b8c8489c", func := "halfplane/halfplanelaw06.QpolyInterpolates", spec := "qpolyInterpolates", unfollowed := true, recurses := true, named := ["math/bits.overflowError"], apart := false, narrowed := true }
def QpolyInterpolatesUptoSaid : Prop := qpolyInterpolatesUptoRow.holds Tryz.pinned (OpenSpec.upto qpolyInterpolatesSpec)

/-- 'halfplanelaw06.QpolyClears', WHERE WHAT IT READS IS OF BULK AT MOST 1048576: true; the input reads as it did. -/
def qpolyClearsUptoRow : OpenClaim := { program := "ytedoifjbgokmcaagreat", sum := "e5e5fbe64d7b2a843346dd42e2eba947c6cdb229bc677415dc944013b8c8489c", func := "halfplane/halfplanelaw06.QpolyClears", spec := "qpolyClears", unfollowed := true, recurses := true, named := ["math/bits.overflowError"], apart := false, narrowed := true }
def QpolyClearsUptoSaid : Prop := qpolyClearsUptoRow.holds Tryz.pinned (OpenSpec.upto qpolyClearsSpec)

end Rows
end Go.Proofs.YtedoifjbgokmcaaGreat
