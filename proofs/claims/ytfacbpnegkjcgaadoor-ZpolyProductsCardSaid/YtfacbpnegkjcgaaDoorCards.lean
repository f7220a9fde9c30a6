/-
  DERIVED. GIVEN WITH THE SEED: THE CARDS: each row of YtfacbpnegkjcgaaDoorRows.lean that lists a variable, with what it lists TIED to the program's text (the seventh form; the later family's looks); each row that meets fmt, with fmt's text TOLD by the authors' own Lean function (tested against real Go, not proved from fmt's source: count such statements apart). THE CARD IS WHAT COUNTS. Prove the row's statement (the work); the ties are given (YtfacbpnegkjcgaaDoorTie.lean); close each card by the builder's one call (the guide's Derived/Test/ToyasCard.lean, 'card_holds'). Laid BY PROGRAM, IN A SANDBOX (cutbox-door.mjs). By AI agents, Wed Nov 11 2026. No macro, syntax, notation, axiom, sorry.
-/
import Derived.Test.YtfacbpnegkjcgaaDoorRows
import GoSem.ClaimSeven
namespace Go.Proofs.YtfacbpnegkjcgaaDoor
namespace Rows

/-- THE TIED CARD OF 'halfplanelaw05.ZpolyMultiplies'. -/
def zpolyMultipliesCard : Claim7 := { stood := { row := zpolyMultipliesRow, standIns := [], harness := (true, "770e49ec16983b26efb1550ea8595ffa0bdf7f09c74e1db656e8794dd553b89e"), looks := false }, kinds := [], alts := [], laidByText := true, laidKinds := [.data, .data, .data], laidTests := true, laidLooks := .later }
def ZpolyMultipliesCardSaid : Prop := Claim7.holds Tryd.pinned (.plain (OpenSpec.ofChange zpolyMultipliesSpec)) zpolyMultipliesCard

/-- THE TIED CARD OF 'halfplanelaw05.ZpolyProducts'. -/
def zpolyProductsCard : Claim7 := { stood := { row := zpolyProductsRow, standIns := [], harness := (true, "770e49ec16983b26efb1550ea8595ffa0bdf7f09c74e1db656e8794dd553b89e"), looks := false }, kinds := [], alts := [], laidByText := true, laidKinds := [.data, .data, .data], laidTests := true, laidLooks := .later }
def ZpolyProductsCardSaid : Prop := Claim7.holds Tryd.pinned (.plain (OpenSpec.ofChange zpolyProductsSpec)) zpolyProductsCard

/-- THE SECOND FORM's CARD OF 'halfplanelaw05.ZpolyMultiplies'. -/
def zpolyMultipliesUptoCard : Claim7 := { stood := { row := zpolyMultipliesUptoRow, standIns := [], harness := (true, "770e49ec16983b26efb1550ea8595ffa0bdf7f09c74e1db656e8794dd553b89e"), looks := false }, kinds := [], alts := [], laidByText := true, laidKinds := [.data, .data, .data], laidTests := true, laidLooks := .later }
def ZpolyMultipliesUptoCardSaid : Prop := Claim7.holds Tryd.pinned (.plain (OpenSpec.upto zpolyMultipliesSpec)) zpolyMultipliesUptoCard

/-- THE SECOND FORM's CARD OF 'halfplanelaw05.ZpolyProducts'. -/
def zpolyProductsUptoCard : Claim7 := { stood := { row := zpolyProductsUptoRow, standIns := [], harness := (true, "770e49ec16983b26efb1550ea8595ffa0bdf7f09c74e1db656e8794dd553b89e"), looks := false }, kinds := [], alts := [], laidByText := true, laidKinds := [.data, .data, .data], laidTests := true, laidLooks := .later }
def ZpolyProductsUptoCardSaid : Prop := Claim7.holds Tryd.pinned (.plain (OpenSpec.upto zpolyProductsSpec)) zpolyProductsUptoCard
end Rows
end Go.Proofs.YtfacbpnegkjcgaaDoor
