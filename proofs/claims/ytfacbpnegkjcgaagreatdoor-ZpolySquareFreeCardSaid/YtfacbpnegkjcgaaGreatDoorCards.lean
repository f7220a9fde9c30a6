/-
  DERIVED. GIVEN WITH THE SEED: THE CARDS: each row of YtfacbpnegkjcgaaGreatDoorRows.lean that lists a variable, with what it lists TIED to the program's text (the seventh form; the later family's looks); each row that meets fmt, with fmt's text TOLD by the authors' own Lean function (tested against real Go, not proved from fmt's source: count such statements apart). THE CARD IS WHAT COUNTS. Prove the row's statement (the work); the ties are given (YtfacbpnegkjcgaaGreatDoorTie.lean); close each card by the builder's one call (the guide's Derived/Test/ToyasCard.lean, 'card_holds'). Laid BY PROGRAM, IN A SANDBOX (cutbox-door.mjs). By AI agents, Wed Nov 11 2026. No macro, syntax, notation, axiom, sorry.
-/
import Derived.Test.YtfacbpnegkjcgaaGreatDoorRows
import GoSem.ClaimSeven
namespace Go.Proofs.YtfacbpnegkjcgaaGreatDoor
namespace Rows

/-- THE TIED CARD OF 'halfplanelaw05.ZpolyContents'. -/
def zpolyContentsCard : Claim7 := { stood := { row := zpolyContentsRow, standIns := [], harness := (true, "5b96ad7968b0d9610c168aecdc5ab5fbfe2bdf559e66d85c207abfc1487cb981"), looks := false }, kinds := [], alts := [], laidByText := true, laidKinds := [.data, .data, .data], laidTests := true, laidLooks := .later }
def ZpolyContentsCardSaid : Prop := Claim7.holds Tryz.pinned (.plain (OpenSpec.ofChange zpolyContentsSpec)) zpolyContentsCard

/-- THE TIED CARD OF 'halfplanelaw05.ZpolyResultants'. -/
def zpolyResultantsCard : Claim7 := { stood := { row := zpolyResultantsRow, standIns := [], harness := (true, "5b96ad7968b0d9610c168aecdc5ab5fbfe2bdf559e66d85c207abfc1487cb981"), looks := false }, kinds := [], alts := [], laidByText := true, laidKinds := [.data, .data, .data], laidTests := true, laidLooks := .later }
def ZpolyResultantsCardSaid : Prop := Claim7.holds Tryz.pinned (.plain (OpenSpec.ofChange zpolyResultantsSpec)) zpolyResultantsCard

/-- THE TIED CARD OF 'halfplanelaw05.ZpolyDivides'. -/
def zpolyDividesCard : Claim7 := { stood := { row := zpolyDividesRow, standIns := [], harness := (true, "5b96ad7968b0d9610c168aecdc5ab5fbfe2bdf559e66d85c207abfc1487cb981"), looks := false }, kinds := [], alts := [], laidByText := true, laidKinds := [.data, .data, .data], laidTests := true, laidLooks := .later }
def ZpolyDividesCardSaid : Prop := Claim7.holds Tryz.pinned (.plain (OpenSpec.ofChange zpolyDividesSpec)) zpolyDividesCard

/-- THE TIED CARD OF 'halfplanelaw05.ZpolyOperations'. -/
def zpolyOperationsCard : Claim7 := { stood := { row := zpolyOperationsRow, standIns := [], harness := (true, "5b96ad7968b0d9610c168aecdc5ab5fbfe2bdf559e66d85c207abfc1487cb981"), looks := false }, kinds := [], alts := [], laidByText := true, laidKinds := [.data, .data, .data], laidTests := true, laidLooks := .later }
def ZpolyOperationsCardSaid : Prop := Claim7.holds Tryz.pinned (.plain (OpenSpec.ofChange zpolyOperationsSpec)) zpolyOperationsCard

/-- THE TIED CARD OF 'halfplanelaw05.ZpolyGcds'. -/
def zpolyGcdsCard : Claim7 := { stood := { row := zpolyGcdsRow, standIns := [], harness := (true, "5b96ad7968b0d9610c168aecdc5ab5fbfe2bdf559e66d85c207abfc1487cb981"), looks := false }, kinds := [], alts := [], laidByText := true, laidKinds := [.data, .data, .data], laidTests := true, laidLooks := .later }
def ZpolyGcdsCardSaid : Prop := Claim7.holds Tryz.pinned (.plain (OpenSpec.ofChange zpolyGcdsSpec)) zpolyGcdsCard

/-- THE TIED CARD OF 'halfplanelaw05.ZpolyEvaluates'. -/
def zpolyEvaluatesCard : Claim7 := { stood := { row := zpolyEvaluatesRow, standIns := [], harness := (true, "5b96ad7968b0d9610c168aecdc5ab5fbfe2bdf559e66d85c207abfc1487cb981"), looks := false }, kinds := [], alts := [], laidByText := true, laidKinds := [.data, .data, .data], laidTests := true, laidLooks := .later }
def ZpolyEvaluatesCardSaid : Prop := Claim7.holds Tryz.pinned (.plain (OpenSpec.ofChange zpolyEvaluatesSpec)) zpolyEvaluatesCard

/-- THE TIED CARD OF 'halfplanelaw05.ZpolySquareFree'. -/
def zpolySquareFreeCard : Claim7 := { stood := { row := zpolySquareFreeRow, standIns := [], harness := (true, "5b96ad7968b0d9610c168aecdc5ab5fbfe2bdf559e66d85c207abfc1487cb981"), looks := false }, kinds := [], alts := [], laidByText := true, laidKinds := [.data, .data, .data], laidTests := true, laidLooks := .later }
def ZpolySquareFreeCardSaid : Prop := Claim7.holds Tryz.pinned (.plain (OpenSpec.ofChange zpolySquareFreeSpec)) zpolySquareFreeCard

/-- THE TIED CARD OF 'halfplanelaw05.ZpolyStrings'. -/
def zpolyStringsCard : Claim7 := { stood := { row := zpolyStringsRow, standIns := [], harness := (true, "5b96ad7968b0d9610c168aecdc5ab5fbfe2bdf559e66d85c207abfc1487cb981"), looks := false }, kinds := [], alts := [], laidByText := true, laidKinds := [.data, .data, .data], laidTests := true, laidLooks := .later }
def ZpolyStringsCardSaid : Prop := Claim7.holds Tryz.pinned (.plain (OpenSpec.ofChange zpolyStringsSpec)) zpolyStringsCard

/-- THE SECOND FORM's CARD OF 'halfplanelaw05.ZpolyContents'. -/
def zpolyContentsUptoCard : Claim7 := { stood := { row := zpolyContentsUptoRow, standIns := [], harness := (true, "5b96ad7968b0d9610c168aecdc5ab5fbfe2bdf559e66d85c207abfc1487cb981"), looks := false }, kinds := [], alts := [], laidByText := true, laidKinds := [.data, .data, .data], laidTests := true, laidLooks := .later }
def ZpolyContentsUptoCardSaid : Prop := Claim7.holds Tryz.pinned (.plain (OpenSpec.upto zpolyContentsSpec)) zpolyContentsUptoCard

/-- THE SECOND FORM's CARD OF 'halfplanelaw05.ZpolyResultants'. -/
def zpolyResultantsUptoCard : Claim7 := { stood := { row := zpolyResultantsUptoRow, standIns := [], harness := (true, "5b96ad7968b0d9610c168aecdc5ab5fbfe2bdf559e66d85c207abfc1487cb981"), looks := false }, kinds := [], alts := [], laidByText := true, laidKinds := [.data, .data, .data], laidTests := true, laidLooks := .later }
def ZpolyResultantsUptoCardSaid : Prop := Claim7.holds Tryz.pinned (.plain (OpenSpec.upto zpolyResultantsSpec)) zpolyResultantsUptoCard

/-- THE SECOND FORM's CARD OF 'halfplanelaw05.ZpolyDivides'. -/
def zpolyDividesUptoCard : Claim7 := { stood := { row := zpolyDividesUptoRow, standIns := [], harness := (true, "5b96ad7968b0d9610c168aecdc5ab5fbfe2bdf559e66d85c207abfc1487cb981"), looks := false }, kinds := [], alts := [], laidByText := true, laidKinds := [.data, .data, .data], laidTests := true, laidLooks := .later }
def ZpolyDividesUptoCardSaid : Prop := Claim7.holds Tryz.pinned (.plain (OpenSpec.upto zpolyDividesSpec)) zpolyDividesUptoCard

/-- THE SECOND FORM's CARD OF 'halfplanelaw05.ZpolyOperations'. -/
def zpolyOperationsUptoCard : Claim7 := { stood := { row := zpolyOperationsUptoRow, standIns := [], harness := (true, "5b96ad7968b0d9610c168aecdc5ab5fbfe2bdf559e66d85c207abfc1487cb981"), looks := false }, kinds := [], alts := [], laidByText := true, laidKinds := [.data, .data, .data], laidTests := true, laidLooks := .later }
def ZpolyOperationsUptoCardSaid : Prop := Claim7.holds Tryz.pinned (.plain (OpenSpec.upto zpolyOperationsSpec)) zpolyOperationsUptoCard

/-- THE SECOND FORM's CARD OF 'halfplanelaw05.ZpolyGcds'. -/
def zpolyGcdsUptoCard : Claim7 := { stood := { row := zpolyGcdsUptoRow, standIns := [], harness := (true, "5b96ad7968b0d9610c168aecdc5ab5fbfe2bdf559e66d85c207abfc1487cb981"), looks := false }, kinds := [], alts := [], laidByText := true, laidKinds := [.data, .data, .data], laidTests := true, laidLooks := .later }
def ZpolyGcdsUptoCardSaid : Prop := Claim7.holds Tryz.pinned (.plain (OpenSpec.upto zpolyGcdsSpec)) zpolyGcdsUptoCard

/-- THE SECOND FORM's CARD OF 'halfplanelaw05.ZpolyEvaluates'. -/
def zpolyEvaluatesUptoCard : Claim7 := { stood := { row := zpolyEvaluatesUptoRow, standIns := [], harness := (true, "5b96ad7968b0d9610c168aecdc5ab5fbfe2bdf559e66d85c207abfc1487cb981"), looks := false }, kinds := [], alts := [], laidByText := true, laidKinds := [.data, .data, .data], laidTests := true, laidLooks := .later }
def ZpolyEvaluatesUptoCardSaid : Prop := Claim7.holds Tryz.pinned (.plain (OpenSpec.upto zpolyEvaluatesSpec)) zpolyEvaluatesUptoCard

/-- THE SECOND FORM's CARD OF 'halfplanelaw05.ZpolySquareFree'. -/
def zpolySquareFreeUptoCard : Claim7 := { stood := { row := zpolySquareFreeUptoRow, standIns := [], harness := (true, "5b96ad7968b0d9610c168aecdc5ab5fbfe2bdf559e66d85c207abfc1487cb981"), looks := false }, kinds := [], alts := [], laidByText := true, laidKinds := [.data, .data, .data], laidTests := true, laidLooks := .later }
def ZpolySquareFreeUptoCardSaid : Prop := Claim7.holds Tryz.pinned (.plain (OpenSpec.upto zpolySquareFreeSpec)) zpolySquareFreeUptoCard

/-- THE SECOND FORM's CARD OF 'halfplanelaw05.ZpolyStrings'. -/
def zpolyStringsUptoCard : Claim7 := { stood := { row := zpolyStringsUptoRow, standIns := [], harness := (true, "5b96ad7968b0d9610c168aecdc5ab5fbfe2bdf559e66d85c207abfc1487cb981"), looks := false }, kinds := [], alts := [], laidByText := true, laidKinds := [.data, .data, .data], laidTests := true, laidLooks := .later }
def ZpolyStringsUptoCardSaid : Prop := Claim7.holds Tryz.pinned (.plain (OpenSpec.upto zpolyStringsSpec)) zpolyStringsUptoCard
end Rows
end Go.Proofs.YtfacbpnegkjcgaaGreatDoor
