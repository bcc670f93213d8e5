/-
  DERIVED. GIVEN WITH THE SEED: THE CARDS: each row of YtgffhiopbnkjbaaGreatDoorRows.lean that lists a variable, with what it lists TIED to the program's text (the seventh form; the later family's looks); each row that meets fmt, with fmt's text TOLD by the authors' own Lean function (tested against real Go, not proved from fmt's source: count such statements apart). THE CARD IS WHAT COUNTS. Prove the row's statement (the work); the ties are given (YtgffhiopbnkjbaaGreatDoorTie.lean); close each card by the builder's one call (the guide's Derived/Test/ToyasCard.lean, 'card_holds'). Laid BY PROGRAM, IN A SANDBOX (cutbox-door.mjs). By AI agents, Wed Nov 11 2026. No macro, syntax, notation, axiom, sorry.
-/
import Derived.Test.YtgffhiopbnkjbaaGreatDoorRows
import GoSem.ClaimSeven
namespace Go.Proofs.YtgffhiopbnkjbaaGreatDoor
namespace Rows

/-- THE TIED CARD OF 'quittancelaw14.NameKinds'. -/
def nameKindsCard : Claim7 := { stood := { row := nameKindsRow, standIns := [], harness := (true, "484d88ff874fd0425396d2ce185e4bd6b19b6a24a2b07cb73f6dd27bedc609b0"), looks := false }, kinds := [], alts := [], laidByText := true, laidKinds := [.data, .data, .data, .data, .pinned], laidTests := true, laidLooks := .later }
def NameKindsCardSaid : Prop := Claim7.holds Tryz.pinned (.plain (OpenSpec.ofChange nameKindsSpec)) nameKindsCard

/-- THE TIED CARD OF 'quittancelaw14.NameSame'. -/
def nameSameCard : Claim7 := { stood := { row := nameSameRow, standIns := [], harness := (true, "484d88ff874fd0425396d2ce185e4bd6b19b6a24a2b07cb73f6dd27bedc609b0"), looks := false }, kinds := [], alts := [], laidByText := true, laidKinds := [.data, .data, .data, .data, .pinned], laidTests := true, laidLooks := .later }
def NameSameCardSaid : Prop := Claim7.holds Tryz.pinned (.plain (OpenSpec.ofChange nameSameSpec)) nameSameCard

/-- THE TIED CARD OF 'quittancelaw14.NameAdds'. -/
def nameAddsCard : Claim7 := { stood := { row := nameAddsRow, standIns := [], harness := (true, "484d88ff874fd0425396d2ce185e4bd6b19b6a24a2b07cb73f6dd27bedc609b0"), looks := false }, kinds := [], alts := [], laidByText := true, laidKinds := [.data, .data, .data, .data, .pinned], laidTests := true, laidLooks := .later }
def NameAddsCardSaid : Prop := Claim7.holds Tryz.pinned (.plain (OpenSpec.ofChange nameAddsSpec)) nameAddsCard

/-- THE TIED CARD OF 'quittancelaw14.NameReads'. -/
def nameReadsCard : Claim7 := { stood := { row := nameReadsRow, standIns := [], harness := (true, "484d88ff874fd0425396d2ce185e4bd6b19b6a24a2b07cb73f6dd27bedc609b0"), looks := false }, kinds := [], alts := [], laidByText := true, laidKinds := [.data, .data, .data, .data, .pinned], laidTests := true, laidLooks := .later }
def NameReadsCardSaid : Prop := Claim7.holds Tryz.pinned (.plain (OpenSpec.ofChange nameReadsSpec)) nameReadsCard

/-- THE TIED CARD OF 'quittancelaw14.NameWrites'. -/
def nameWritesCard : Claim7 := { stood := { row := nameWritesRow, standIns := [], harness := (true, "484d88ff874fd0425396d2ce185e4bd6b19b6a24a2b07cb73f6dd27bedc609b0"), looks := false }, kinds := [], alts := [], laidByText := true, laidKinds := [.data, .data, .data, .data, .pinned], laidTests := true, laidLooks := .later }
def NameWritesCardSaid : Prop := Claim7.holds Tryz.pinned (.plain (OpenSpec.ofChange nameWritesSpec)) nameWritesCard

/-- THE TIED CARD OF 'quittancelaw14.NameBack'. -/
def nameBackCard : Claim7 := { stood := { row := nameBackRow, standIns := [], harness := (true, "484d88ff874fd0425396d2ce185e4bd6b19b6a24a2b07cb73f6dd27bedc609b0"), looks := false }, kinds := [], alts := [], laidByText := true, laidKinds := [.data, .data, .data, .data, .pinned], laidTests := true, laidLooks := .later }
def NameBackCardSaid : Prop := Claim7.holds Tryz.pinned (.plain (OpenSpec.ofChange nameBackSpec)) nameBackCard

/-- THE SECOND FORM's CARD OF 'quittancelaw14.NameKinds'. -/
def nameKindsUptoCard : Claim7 := { stood := { row := nameKindsUptoRow, standIns := [], harness := (true, "484d88ff874fd0425396d2ce185e4bd6b19b6a24a2b07cb73f6dd27bedc609b0"), looks := false }, kinds := [], alts := [], laidByText := true, laidKinds := [.data, .data, .data, .data, .pinned], laidTests := true, laidLooks := .later }
def NameKindsUptoCardSaid : Prop := Claim7.holds Tryz.pinned (.plain (OpenSpec.upto nameKindsSpec)) nameKindsUptoCard

/-- THE SECOND FORM's CARD OF 'quittancelaw14.NameSame'. -/
def nameSameUptoCard : Claim7 := { stood := { row := nameSameUptoRow, standIns := [], harness := (true, "484d88ff874fd0425396d2ce185e4bd6b19b6a24a2b07cb73f6dd27bedc609b0"), looks := false }, kinds := [], alts := [], laidByText := true, laidKinds := [.data, .data, .data, .data, .pinned], laidTests := true, laidLooks := .later }
def NameSameUptoCardSaid : Prop := Claim7.holds Tryz.pinned (.plain (OpenSpec.upto nameSameSpec)) nameSameUptoCard

/-- THE SECOND FORM's CARD OF 'quittancelaw14.NameAdds'. -/
def nameAddsUptoCard : Claim7 := { stood := { row := nameAddsUptoRow, standIns := [], harness := (true, "484d88ff874fd0425396d2ce185e4bd6b19b6a24a2b07cb73f6dd27bedc609b0"), looks := false }, kinds := [], alts := [], laidByText := true, laidKinds := [.data, .data, .data, .data, .pinned], laidTests := true, laidLooks := .later }
def NameAddsUptoCardSaid : Prop := Claim7.holds Tryz.pinned (.plain (OpenSpec.upto nameAddsSpec)) nameAddsUptoCard

/-- THE SECOND FORM's CARD OF 'quittancelaw14.NameReads'. -/
def nameReadsUptoCard : Claim7 := { stood := { row := nameReadsUptoRow, standIns := [], harness := (true, "484d88ff874fd0425396d2ce185e4bd6b19b6a24a2b07cb73f6dd27bedc609b0"), looks := false }, kinds := [], alts := [], laidByText := true, laidKinds := [.data, .data, .data, .data, .pinned], laidTests := true, laidLooks := .later }
def NameReadsUptoCardSaid : Prop := Claim7.holds Tryz.pinned (.plain (OpenSpec.upto nameReadsSpec)) nameReadsUptoCard

/-- THE SECOND FORM's CARD OF 'quittancelaw14.NameWrites'. -/
def nameWritesUptoCard : Claim7 := { stood := { row := nameWritesUptoRow, standIns := [], harness := (true, "484d88ff874fd0425396d2ce185e4bd6b19b6a24a2b07cb73f6dd27bedc609b0"), looks := false }, kinds := [], alts := [], laidByText := true, laidKinds := [.data, .data, .data, .data, .pinned], laidTests := true, laidLooks := .later }
def NameWritesUptoCardSaid : Prop := Claim7.holds Tryz.pinned (.plain (OpenSpec.upto nameWritesSpec)) nameWritesUptoCard

/-- THE SECOND FORM's CARD OF 'quittancelaw14.NameBack'. -/
def nameBackUptoCard : Claim7 := { stood := { row := nameBackUptoRow, standIns := [], harness := (true, "484d88ff874fd0425396d2ce185e4bd6b19b6a24a2b07cb73f6dd27bedc609b0"), looks := false }, kinds := [], alts := [], laidByText := true, laidKinds := [.data, .data, .data, .data, .pinned], laidTests := true, laidLooks := .later }
def NameBackUptoCardSaid : Prop := Claim7.holds Tryz.pinned (.plain (OpenSpec.upto nameBackSpec)) nameBackUptoCard
end Rows
end Go.Proofs.YtgffhiopbnkjbaaGreatDoor
