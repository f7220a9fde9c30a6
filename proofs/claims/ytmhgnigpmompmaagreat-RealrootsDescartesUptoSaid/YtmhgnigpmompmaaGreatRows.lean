/-
  No cell of these rows narrows 'for every input' (looked for: loops, veiled, ifaces, maps, wideKeys, modest, calm, conditions, laid).
  DERIVED. THE GIVEN ROWS OF THIS SEAT. 9 by the template 'for every input the law returns true; each argument reads behind the call as it read before'; 0 by the template 'total and deterministic' (their statements: YtmhgnigpmompmaaGreatTotals.lean).
  GIVEN WITH THE SEED: the statements are not yours to turn. If you find one false, say at which input.
  Laid BY PROGRAM, IN A SANDBOX (cutbox-rows.mjs): the forced cells as the released guide's own fill.sh prints them over the translation 03e86371c977f758… (all of the seat's roots in one cut). By AI agents, Wed Nov 11 2026. No macro, syntax, notation, axiom, sorry.
-/
import Derived.Test.YtmhgnigpmompmaaGreatChecked
import GoSem.Claim
import GoSem.ClaimJoined
import GoSem.ClaimMapViews
import Derived.JoinedTies
import Derived.KernelRfl
namespace Go.Proofs.YtmhgnigpmompmaaGreat
/- THE CELL 'sum', in the pinned program and in every row, IS THE sha256 OF THE DUMP (.gsa) THAT YtmhgnigpmompmaaGreatProg.lean LOADS. Nothing in Lean hashes anything: it is a label: what it is worth is what the hold of that sum in a sandbox is worth. -/
noncomputable def Tryz.pinned : Pinned := { name := "ytmhgnigpmompmaagreat", sum := "03e86371c977f75877c07c69c9c44496770ac22539927d505157d8fb6a3ac54a", checked := Tryz.checked }
namespace Rows
def none {H : Type} : Left H := { results := [], args := [] }

/-- 'halfplanelaw08.RealrootsCounts': WHATEVER THE INPUT: true; the input reads as it did. -/
def realrootsCountsSpec : ChangeSpec := { name := "realrootsCounts", fn := fun _ => fun
  | [d1, d2, d3] => { results := [.lit (.bool true)], args := [d1, d2, d3] }
  | _ => none }
def realrootsCountsRow : OpenClaim := { program := "ytmhgnigpmompmaagreat", sum := "03e86371c977f75877c07c69c9c44496770ac22539927d505157d8fb6a3ac54a", func := "halfplane/halfplanelaw08.RealrootsCounts", spec := "realrootsCounts", unfollowed := true, recurses := true, named := ["math/bits.overflowError"], apart := false }
def RealrootsCountsSaid : Prop := realrootsCountsRow.holds Tryz.pinned (OpenSpec.ofChange realrootsCountsSpec)

/-- ITS FALSE NEIGHBOUR: 'it returns false'. Refute it at one input. -/
def realrootsCountsWrong : ChangeSpec := { name := "realrootsCounts", fn := fun _ => fun
  | [d1, d2, d3] => { results := [.lit (.bool false)], args := [d1, d2, d3] }
  | _ => none }
def RealrootsCountsWrongFalsely : Prop := realrootsCountsRow.holds Tryz.pinned (OpenSpec.ofChange realrootsCountsWrong)

/-- 'halfplanelaw08.RealrootsKnown': WHATEVER THE INPUT: true; the input reads as it did. -/
def realrootsKnownSpec : ChangeSpec := { name := "realrootsKnown", fn := fun _ => fun
  | [d] => { results := [.lit (.bool true)], args := [d] }
  | _ => none }
def realrootsKnownRow : OpenClaim := { program := "ytmhgnigpmompmaagreat", sum := "03e86371c977f75877c07c69c9c44496770ac22539927d505157d8fb6a3ac54a", func := "halfplane/halfplanelaw08.RealrootsKnown", spec := "realrootsKnown", unfollowed := true, recurses := true, named := ["math/bits.overflowError"], apart := false }
def RealrootsKnownSaid : Prop := realrootsKnownRow.holds Tryz.pinned (OpenSpec.ofChange realrootsKnownSpec)

/-- ITS FALSE NEIGHBOUR: 'it returns false'. Refute it at one input. -/
def realrootsKnownWrong : ChangeSpec := { name := "realrootsKnown", fn := fun _ => fun
  | [d] => { results := [.lit (.bool false)], args := [d] }
  | _ => none }
def RealrootsKnownWrongFalsely : Prop := realrootsKnownRow.holds Tryz.pinned (OpenSpec.ofChange realrootsKnownWrong)

/-- 'halfplanelaw08.RealrootsChain': WHATEVER THE INPUT: true; the input reads as it did. -/
def realrootsChainSpec : ChangeSpec := { name := "realrootsChain", fn := fun _ => fun
  | [d] => { results := [.lit (.bool true)], args := [d] }
  | _ => none }
def realrootsChainRow : OpenClaim := { program := "ytmhgnigpmompmaagreat", sum := "03e86371c977f75877c07c69c9c44496770ac22539927d505157d8fb6a3ac54a", func := "halfplane/halfplanelaw08.RealrootsChain", spec := "realrootsChain", unfollowed := true, recurses := true, named := ["math/bits.overflowError"], apart := false }
def RealrootsChainSaid : Prop := realrootsChainRow.holds Tryz.pinned (OpenSpec.ofChange realrootsChainSpec)

/-- ITS FALSE NEIGHBOUR: 'it returns false'. Refute it at one input. -/
def realrootsChainWrong : ChangeSpec := { name := "realrootsChain", fn := fun _ => fun
  | [d] => { results := [.lit (.bool false)], args := [d] }
  | _ => none }
def RealrootsChainWrongFalsely : Prop := realrootsChainRow.holds Tryz.pinned (OpenSpec.ofChange realrootsChainWrong)

/-- 'halfplanelaw08.RealrootsIsolates': WHATEVER THE INPUT: true; the input reads as it did. -/
def realrootsIsolatesSpec : ChangeSpec := { name := "realrootsIsolates", fn := fun _ => fun
  | [d1, d2] => { results := [.lit (.bool true)], args := [d1, d2] }
  | _ => none }
def realrootsIsolatesRow : OpenClaim := { program := "ytmhgnigpmompmaagreat", sum := "03e86371c977f75877c07c69c9c44496770ac22539927d505157d8fb6a3ac54a", func := "halfplane/halfplanelaw08.RealrootsIsolates", spec := "realrootsIsolates", unfollowed := true, recurses := true, named := ["math/bits.overflowError"], apart := false }
def RealrootsIsolatesSaid : Prop := realrootsIsolatesRow.holds Tryz.pinned (OpenSpec.ofChange realrootsIsolatesSpec)

/-- ITS FALSE NEIGHBOUR: 'it returns false'. Refute it at one input. -/
def realrootsIsolatesWrong : ChangeSpec := { name := "realrootsIsolates", fn := fun _ => fun
  | [d1, d2] => { results := [.lit (.bool false)], args := [d1, d2] }
  | _ => none }
def RealrootsIsolatesWrongFalsely : Prop := realrootsIsolatesRow.holds Tryz.pinned (OpenSpec.ofChange realrootsIsolatesWrong)

/-- 'halfplanelaw08.RealrootsDescartes': WHATEVER THE INPUT: true; the input reads as it did. -/
def realrootsDescartesSpec : ChangeSpec := { name := "realrootsDescartes", fn := fun _ => fun
  | [d] => { results := [.lit (.bool true)], args := [d] }
  | _ => none }
def realrootsDescartesRow : OpenClaim := { program := "ytmhgnigpmompmaagreat", sum := "03e86371c977f75877c07c69c9c44496770ac22539927d505157d8fb6a3ac54a", func := "halfplane/halfplanelaw08.RealrootsDescartes", spec := "realrootsDescartes", unfollowed := true, recurses := true, named := ["math/bits.overflowError"], apart := false }
def RealrootsDescartesSaid : Prop := realrootsDescartesRow.holds Tryz.pinned (OpenSpec.ofChange realrootsDescartesSpec)

/-- ITS FALSE NEIGHBOUR: 'it returns false'. Refute it at one input. -/
def realrootsDescartesWrong : ChangeSpec := { name := "realrootsDescartes", fn := fun _ => fun
  | [d] => { results := [.lit (.bool false)], args := [d] }
  | _ => none }
def RealrootsDescartesWrongFalsely : Prop := realrootsDescartesRow.holds Tryz.pinned (OpenSpec.ofChange realrootsDescartesWrong)

/-- 'halfplanelaw08.RealrootsSigns': WHATEVER THE INPUT: true; the input reads as it did. -/
def realrootsSignsSpec : ChangeSpec := { name := "realrootsSigns", fn := fun _ => fun
  | [d1, d2, d3] => { results := [.lit (.bool true)], args := [d1, d2, d3] }
  | _ => none }
def realrootsSignsRow : OpenClaim := { program := "ytmhgnigpmompmaagreat", sum := "03e86371c977f75877c07c69c9c44496770ac22539927d505157d8fb6a3ac54a", func := "halfplane/halfplanelaw08.RealrootsSigns", spec := "realrootsSigns", unfollowed := true, recurses := true, named := ["math/bits.overflowError"], apart := false }
def RealrootsSignsSaid : Prop := realrootsSignsRow.holds Tryz.pinned (OpenSpec.ofChange realrootsSignsSpec)

/-- ITS FALSE NEIGHBOUR: 'it returns false'. Refute it at one input. -/
def realrootsSignsWrong : ChangeSpec := { name := "realrootsSigns", fn := fun _ => fun
  | [d1, d2, d3] => { results := [.lit (.bool false)], args := [d1, d2, d3] }
  | _ => none }
def RealrootsSignsWrongFalsely : Prop := realrootsSignsRow.holds Tryz.pinned (OpenSpec.ofChange realrootsSignsWrong)

/-- 'halfplanelaw08.RealrootsCompares': WHATEVER THE INPUT: true; the input reads as it did. -/
def realrootsComparesSpec : ChangeSpec := { name := "realrootsCompares", fn := fun _ => fun
  | [d1, d2] => { results := [.lit (.bool true)], args := [d1, d2] }
  | _ => none }
def realrootsComparesRow : OpenClaim := { program := "ytmhgnigpmompmaagreat", sum := "03e86371c977f75877c07c69c9c44496770ac22539927d505157d8fb6a3ac54a", func := "halfplane/halfplanelaw08.RealrootsCompares", spec := "realrootsCompares", unfollowed := true, recurses := true, named := ["math/bits.overflowError"], apart := false }
def RealrootsComparesSaid : Prop := realrootsComparesRow.holds Tryz.pinned (OpenSpec.ofChange realrootsComparesSpec)

/-- ITS FALSE NEIGHBOUR: 'it returns false'. Refute it at one input. -/
def realrootsComparesWrong : ChangeSpec := { name := "realrootsCompares", fn := fun _ => fun
  | [d1, d2] => { results := [.lit (.bool false)], args := [d1, d2] }
  | _ => none }
def RealrootsComparesWrongFalsely : Prop := realrootsComparesRow.holds Tryz.pinned (OpenSpec.ofChange realrootsComparesWrong)

/-- 'halfplanelaw08.RealrootsMembers': WHATEVER THE INPUT: true; the input reads as it did. -/
def realrootsMembersSpec : ChangeSpec := { name := "realrootsMembers", fn := fun _ => fun
  | [d1, d2, d3] => { results := [.lit (.bool true)], args := [d1, d2, d3] }
  | _ => none }
def realrootsMembersRow : OpenClaim := { program := "ytmhgnigpmompmaagreat", sum := "03e86371c977f75877c07c69c9c44496770ac22539927d505157d8fb6a3ac54a", func := "halfplane/halfplanelaw08.RealrootsMembers", spec := "realrootsMembers", unfollowed := true, recurses := true, named := ["math/bits.overflowError"], apart := false }
def RealrootsMembersSaid : Prop := realrootsMembersRow.holds Tryz.pinned (OpenSpec.ofChange realrootsMembersSpec)

/-- ITS FALSE NEIGHBOUR: 'it returns false'. Refute it at one input. -/
def realrootsMembersWrong : ChangeSpec := { name := "realrootsMembers", fn := fun _ => fun
  | [d1, d2, d3] => { results := [.lit (.bool false)], args := [d1, d2, d3] }
  | _ => none }
def RealrootsMembersWrongFalsely : Prop := realrootsMembersRow.holds Tryz.pinned (OpenSpec.ofChange realrootsMembersWrong)

/-- 'halfplanelaw08.RealrootsRefuses': WHATEVER THE INPUT: true; the input reads as it did. -/
def realrootsRefusesSpec : ChangeSpec := { name := "realrootsRefuses", fn := fun _ => fun
  | [d] => { results := [.lit (.bool true)], args := [d] }
  | _ => none }
def realrootsRefusesRow : OpenClaim := { program := "ytmhgnigpmompmaagreat", sum := "03e86371c977f75877c07c69c9c44496770ac22539927d505157d8fb6a3ac54a", func := "halfplane/halfplanelaw08.RealrootsRefuses", spec := "realrootsRefuses", unfollowed := true, recurses := true, named := ["math/bits.overflowError"], apart := false }
def RealrootsRefusesSaid : Prop := realrootsRefusesRow.holds Tryz.pinned (OpenSpec.ofChange realrootsRefusesSpec)

/-- ITS FALSE NEIGHBOUR: 'it returns false'. Refute it at one input. -/
def realrootsRefusesWrong : ChangeSpec := { name := "realrootsRefuses", fn := fun _ => fun
  | [d] => { results := [.lit (.bool false)], args := [d] }
  | _ => none }
def RealrootsRefusesWrongFalsely : Prop := realrootsRefusesRow.holds Tryz.pinned (OpenSpec.ofChange realrootsRefusesWrong)

/- THE SECOND FORM. 'bulk': how many values and letters a reading holds, each counted each time it is reached (what is shared counts as often as it is met; a slice's spare places count too). A statement '..UptoSaid' is the law's where the arguments, and the package variables that the reading takes, are together of bulk at most 1048576: NARROWER than '..Said'. Prove '..Said' where nothing that the law and all that it calls make is longer than what came in: it says more and counts as full. Else prove '..UptoSaid'. A law counts once. -/
mutual
def uptoBulk {H : Type} : DataW H → Nat
  | .lit (.string bytes) => bytes.length + 1
  | .lit _ => 1
  | .nil => 1
  | .ptr d => uptoBulk d + 1
  | .slice elems spare => uptoBulkAll elems + uptoBulkAll spare + 1
  | .agg parts => uptoBulkAll parts + 1
  | .iface _ d => uptoBulk d + 1
  | .map entries => uptoBulkEntries entries + 1
  | .held _ => 1
def uptoBulkAll {H : Type} : List (DataW H) → Nat
  | [] => 0
  | d :: r => uptoBulk d + uptoBulkAll r
def uptoBulkEntries {H : Type} : List (Lit × DataW H) → Nat
  | [] => 0
  | x :: r => uptoBulkEntry x + uptoBulkEntries r
def uptoBulkEntry {H : Type} : Lit × DataW H → Nat
  | (.string bytes, d) => bytes.length + uptoBulk d + 1
  | (_, d) => uptoBulk d + 1
 end
def uptoSmall : (H : Type) → List (DataW H) → Bool := fun _ ds => decide (uptoBulkAll ds ≤ 1048576)
def OpenSpec.upto (s : _root_.Go.ChangeSpec) : _root_.Go.OpenSpec := { _root_.Go.OpenSpec.ofChange s with cond := some uptoSmall }

/-- 'halfplanelaw08.RealrootsCounts', WHERE WHAT IT READS IS OF BULK AT MOST 1048576: true; the input reads as it did. -/
def realrootsCountsUptoRow : OpenClaim := { program := "ytmhgnigpmompmaagreat", sum := "03e86371c977f75877c07c69c9c44496770ac22539927d505157d8fb6a3ac54a", func := "halfplane/halfplanelaw08.RealrootsCounts", spec := "realrootsCounts", unfollowed := true, recurses := true, named := ["math/bits.overflowError"], apart := false, narrowed := true }
def RealrootsCountsUptoSaid : Prop := realrootsCountsUptoRow.holds Tryz.pinned (OpenSpec.upto realrootsCountsSpec)

/-- 'halfplanelaw08.RealrootsKnown', WHERE WHAT IT READS IS OF BULK AT MOST 1048576: true; the input reads as it did. -/
def realrootsKnownUptoRow : OpenClaim := { program := "ytmhgnigpmompmaagreat", sum := "03e86371c977f75877c07c69c9c44496770ac22539927d505157d8fb6a3ac54a", func := "halfplane/halfplanelaw08.RealrootsKnown", spec := "realrootsKnown", unfollowed := true, recurses := true, named := ["math/bits.overflowError"], apart := false, narrowed := true }
def RealrootsKnownUptoSaid : Prop := realrootsKnownUptoRow.holds Tryz.pinned (OpenSpec.upto realrootsKnownSpec)

/-- 'halfplanelaw08.RealrootsChain', WHERE WHAT IT READS IS OF BULK AT MOST 1048576: true; the input reads as it did. -/
def realrootsChainUptoRow : OpenClaim := { program := "ytmhgnigpmompmaagreat", sum := "03e86371c977f75877c07c69c9c44496770ac22539927d505157d8fb6a3ac54a", func := "halfplane/halfplanelaw08.RealrootsChain", spec := "realrootsChain", unfollowed := true, recurses := true, named := ["math/bits.overflowError"], apart := false, narrowed := true }
def RealrootsChainUptoSaid : Prop := realrootsChainUptoRow.holds Tryz.pinned (OpenSpec.upto realrootsChainSpec)

/-- 'halfplanelaw08.RealrootsIsolates', WHERE WHAT IT READS IS OF BULK AT MOST 1048576: true; the input reads as it did. -/
def realrootsIsolatesUptoRow : OpenClaim := { program := "ytmhgnigpmompmaagreat", sum := "03e86371c977f75877c07c69c9c44496770ac22539927d505157d8fb6a3ac54a", func := "halfplane/halfplanelaw08.RealrootsIsolates", spec := "realrootsIsolates", unfollowed := true, recurses := true, named := ["math/bits.overflowError"], apart := false, narrowed := true }
def RealrootsIsolatesUptoSaid : Prop := realrootsIsolatesUptoRow.holds Tryz.pinned (OpenSpec.upto realrootsIsolatesSpec)

/-- 'halfplanelaw08.RealrootsDescartes', WHERE WHAT IT READS IS OF BULK AT MOST 1048576: true; the input reads as it did. -/
def realrootsDescartesUptoRow : OpenClaim := { program := "ytmhgnigpmompmaagreat", sum := "03e86371c977f75877c07c69c9c44496770ac22539927d505157d8fb6a3ac54a", func := "halfplane/halfplanelaw08.RealrootsDescartes", spec := "realrootsDescartes", unfollowed := true, recurses := true, named := ["math/bits.overflowError"], apart := false, narrowed := true }
def RealrootsDescartesUptoSaid : Prop := realrootsDescartesUptoRow.holds Tryz.pinned (OpenSpec.upto realrootsDescartesSpec)

/-- 'halfplanelaw08.RealrootsSigns', WHERE WHAT IT READS IS OF BULK AT MOST 1048576: true; the input reads as it did. -/
def realrootsSignsUptoRow : OpenClaim := { program := "ytmhgnigpmompmaagreat", sum := "03e86371c977f75877c07c69c9c44496770ac22539927d505157d8fb6a3ac54a", func := "halfplane/halfplanelaw08.RealrootsSigns", spec := "realrootsSigns", unfollowed := true, recurses := true, named := ["math/bits.overflowError"], apart := false, narrowed := true }
def RealrootsSignsUptoSaid : Prop := realrootsSignsUptoRow.holds Tryz.pinned (OpenSpec.upto realrootsSignsSpec)

/-- 'halfplanelaw08.RealrootsCompares', WHERE WHAT IT READS IS OF BULK AT MOST 1048576: true; the input reads as it did. -/
def realrootsComparesUptoRow : OpenClaim := { program := "ytmhgnigpmompmaagreat", sum := "03e86371c977f75877c07c69c9c44496770ac22539927d505157d8fb6a3ac54a", func := "halfplane/halfplanelaw08.RealrootsCompares", spec := "realrootsCompares", unfollowed := true, recurses := true, named := ["math/bits.overflowError"], apart := false, narrowed := true }
def RealrootsComparesUptoSaid : Prop := realrootsComparesUptoRow.holds Tryz.pinned (OpenSpec.upto realrootsComparesSpec)

/-- 'halfplanelaw08.RealrootsMembers', WHERE WHAT IT READS IS OF BULK AT MOST 1048576: true; the input reads as it did. -/
def realrootsMembersUptoRow : OpenClaim := { program := "ytmhgnigpmompmaagreat", sum := "03e86371c977f75877c07c69c9c44496770ac22539927d505157d8fb6a3ac54a", func := "halfplane/halfplanelaw08.RealrootsMembers", spec := "realrootsMembers", unfollowed := true, recurses := true, named := ["math/bits.overflowError"], apart := false, narrowed := true }
def RealrootsMembersUptoSaid : Prop := realrootsMembersUptoRow.holds Tryz.pinned (OpenSpec.upto realrootsMembersSpec)

/-- 'halfplanelaw08.RealrootsRefuses', WHERE WHAT IT READS IS OF BULK AT MOST 1048576: true; the input reads as it did. -/
def realrootsRefusesUptoRow : OpenClaim := { program := "ytmhgnigpmompmaagreat", sum := "03e86371c977f75877c07c69c9c44496770ac22539927d505157d8fb6a3ac54a", func := "halfplane/halfplanelaw08.RealrootsRefuses", spec := "realrootsRefuses", unfollowed := true, recurses := true, named := ["math/bits.overflowError"], apart := false, narrowed := true }
def RealrootsRefusesUptoSaid : Prop := realrootsRefusesUptoRow.holds Tryz.pinned (OpenSpec.upto realrootsRefusesSpec)

end Rows
end Go.Proofs.YtmhgnigpmompmaaGreat
