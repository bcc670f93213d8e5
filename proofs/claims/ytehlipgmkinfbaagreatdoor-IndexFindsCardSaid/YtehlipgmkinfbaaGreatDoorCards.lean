/-
  DERIVED. GIVEN WITH THE SEED: THE CARDS: each row of YtehlipgmkinfbaaGreatDoorRows.lean that lists a variable, with what it lists TIED to the program's text (the seventh form; the later family's looks); each row that meets fmt, with fmt's text TOLD by the authors' own Lean function (tested against real Go, not proved from fmt's source: count such statements apart). THE CARD IS WHAT COUNTS. Prove the row's statement (the work); the ties are given (YtehlipgmkinfbaaGreatDoorTie.lean); close each card by the builder's one call (the guide's Derived/Test/ToyasCard.lean, 'card_holds'). Laid BY PROGRAM, IN A SANDBOX (cutbox-door.mjs). By AI agents, Wed Nov 11 2026. No macro, syntax, notation, axiom, sorry.
-/
import Derived.Test.YtehlipgmkinfbaaGreatDoorRows
import GoSem.ClaimSeven
namespace Go.Proofs.YtehlipgmkinfbaaGreatDoor
namespace Rows

/-- THE TIED CARD OF 'quittancelaw22.IndexMakes'. -/
def indexMakesCard : Claim7 := { stood := { row := indexMakesRow, standIns := [], harness := (true, "3ac5c8924f17526b6407a795abcbe147a78d61ab18e52e23ec5bce6e7e3f0b0a"), looks := false }, kinds := [], alts := [], laidByText := true, laidKinds := [.data, .data, .data, .data, .pinned], laidTests := true, laidLooks := .later }
def IndexMakesCardSaid : Prop := Claim7.holds Tryz.pinned (.plain (OpenSpec.ofChange indexMakesSpec)) indexMakesCard

/-- THE TIED CARD OF 'quittancelaw22.IndexMerges'. -/
def indexMergesCard : Claim7 := { stood := { row := indexMergesRow, standIns := [], harness := (true, "3ac5c8924f17526b6407a795abcbe147a78d61ab18e52e23ec5bce6e7e3f0b0a"), looks := false }, kinds := [], alts := [], laidByText := true, laidKinds := [.data, .data, .data, .data, .pinned], laidTests := true, laidLooks := .later }
def IndexMergesCardSaid : Prop := Claim7.holds Tryz.pinned (.plain (OpenSpec.ofChange indexMergesSpec)) indexMergesCard

/-- THE TIED CARD OF 'quittancelaw22.IndexBack'. -/
def indexBackCard : Claim7 := { stood := { row := indexBackRow, standIns := [], harness := (true, "3ac5c8924f17526b6407a795abcbe147a78d61ab18e52e23ec5bce6e7e3f0b0a"), looks := false }, kinds := [], alts := [], laidByText := true, laidKinds := [.data, .data, .data, .data, .pinned], laidTests := true, laidLooks := .later }
def IndexBackCardSaid : Prop := Claim7.holds Tryz.pinned (.plain (OpenSpec.ofChange indexBackSpec)) indexBackCard

/-- THE TIED CARD OF 'quittancelaw22.IndexFinds'. -/
def indexFindsCard : Claim7 := { stood := { row := indexFindsRow, standIns := [], harness := (true, "3ac5c8924f17526b6407a795abcbe147a78d61ab18e52e23ec5bce6e7e3f0b0a"), looks := false }, kinds := [], alts := [], laidByText := true, laidKinds := [.data, .data, .data, .data, .pinned], laidTests := true, laidLooks := .later }
def IndexFindsCardSaid : Prop := Claim7.holds Tryz.pinned (.plain (OpenSpec.ofChange indexFindsSpec)) indexFindsCard

/-- THE TIED CARD OF 'quittancelaw22.IndexOrders'. -/
def indexOrdersCard : Claim7 := { stood := { row := indexOrdersRow, standIns := [], harness := (true, "3ac5c8924f17526b6407a795abcbe147a78d61ab18e52e23ec5bce6e7e3f0b0a"), looks := false }, kinds := [], alts := [], laidByText := true, laidKinds := [.data, .data, .data, .data, .pinned], laidTests := true, laidLooks := .later }
def IndexOrdersCardSaid : Prop := Claim7.holds Tryz.pinned (.plain (OpenSpec.ofChange indexOrdersSpec)) indexOrdersCard

/-- THE SECOND FORM's CARD OF 'quittancelaw22.IndexMakes'. -/
def indexMakesUptoCard : Claim7 := { stood := { row := indexMakesUptoRow, standIns := [], harness := (true, "3ac5c8924f17526b6407a795abcbe147a78d61ab18e52e23ec5bce6e7e3f0b0a"), looks := false }, kinds := [], alts := [], laidByText := true, laidKinds := [.data, .data, .data, .data, .pinned], laidTests := true, laidLooks := .later }
def IndexMakesUptoCardSaid : Prop := Claim7.holds Tryz.pinned (.plain (OpenSpec.upto indexMakesSpec)) indexMakesUptoCard

/-- THE SECOND FORM's CARD OF 'quittancelaw22.IndexMerges'. -/
def indexMergesUptoCard : Claim7 := { stood := { row := indexMergesUptoRow, standIns := [], harness := (true, "3ac5c8924f17526b6407a795abcbe147a78d61ab18e52e23ec5bce6e7e3f0b0a"), looks := false }, kinds := [], alts := [], laidByText := true, laidKinds := [.data, .data, .data, .data, .pinned], laidTests := true, laidLooks := .later }
def IndexMergesUptoCardSaid : Prop := Claim7.holds Tryz.pinned (.plain (OpenSpec.upto indexMergesSpec)) indexMergesUptoCard

/-- THE SECOND FORM's CARD OF 'quittancelaw22.IndexBack'. -/
def indexBackUptoCard : Claim7 := { stood := { row := indexBackUptoRow, standIns := [], harness := (true, "3ac5c8924f17526b6407a795abcbe147a78d61ab18e52e23ec5bce6e7e3f0b0a"), looks := false }, kinds := [], alts := [], laidByText := true, laidKinds := [.data, .data, .data, .data, .pinned], laidTests := true, laidLooks := .later }
def IndexBackUptoCardSaid : Prop := Claim7.holds Tryz.pinned (.plain (OpenSpec.upto indexBackSpec)) indexBackUptoCard

/-- THE SECOND FORM's CARD OF 'quittancelaw22.IndexFinds'. -/
def indexFindsUptoCard : Claim7 := { stood := { row := indexFindsUptoRow, standIns := [], harness := (true, "3ac5c8924f17526b6407a795abcbe147a78d61ab18e52e23ec5bce6e7e3f0b0a"), looks := false }, kinds := [], alts := [], laidByText := true, laidKinds := [.data, .data, .data, .data, .pinned], laidTests := true, laidLooks := .later }
def IndexFindsUptoCardSaid : Prop := Claim7.holds Tryz.pinned (.plain (OpenSpec.upto indexFindsSpec)) indexFindsUptoCard

/-- THE SECOND FORM's CARD OF 'quittancelaw22.IndexOrders'. -/
def indexOrdersUptoCard : Claim7 := { stood := { row := indexOrdersUptoRow, standIns := [], harness := (true, "3ac5c8924f17526b6407a795abcbe147a78d61ab18e52e23ec5bce6e7e3f0b0a"), looks := false }, kinds := [], alts := [], laidByText := true, laidKinds := [.data, .data, .data, .data, .pinned], laidTests := true, laidLooks := .later }
def IndexOrdersUptoCardSaid : Prop := Claim7.holds Tryz.pinned (.plain (OpenSpec.upto indexOrdersSpec)) indexOrdersUptoCard
end Rows
end Go.Proofs.YtehlipgmkinfbaaGreatDoor
