/-
  DERIVED. GIVEN WITH THE SEED: THE CARDS: each row of YtacekpdjapgfcaaGreatDoorRows.lean that lists a variable, with what it lists TIED to the program's text (the seventh form; the later family's looks); each row that meets fmt, with fmt's text TOLD by the authors' own Lean function (tested against real Go, not proved from fmt's source: count such statements apart). THE CARD IS WHAT COUNTS. Prove the row's statement (the work); the ties are given (YtacekpdjapgfcaaGreatDoorTie.lean); close each card by the builder's one call (the guide's Derived/Test/ToyasCard.lean, 'card_holds'). Laid BY PROGRAM, IN A SANDBOX (cutbox-door.mjs). By AI agents, Wed Nov 11 2026. No macro, syntax, notation, axiom, sorry.
-/
import Derived.Test.YtacekpdjapgfcaaGreatDoorRows
import GoSem.ClaimSeven
namespace Go.Proofs.YtacekpdjapgfcaaGreatDoor
namespace Rows

/-- THE TIED CARD OF 'quittancelaw14.NameBack'. -/
def nameBackCard : Claim7 := { stood := { row := nameBackRow, standIns := [], harness := (true, "1619178096efb5064dd21d95da6f3d30affe6208b1aaee8354a4dfeffbf81dd0"), looks := false }, kinds := [], alts := [], laidByText := true, laidKinds := [.data, .data, .data, .data, .pinned], laidTests := true, laidLooks := .later }
def NameBackCardSaid : Prop := Claim7.holds Tryz.pinned (.plain (OpenSpec.ofChange nameBackSpec)) nameBackCard

/-- THE TIED CARD OF 'quittancelaw15.GeneralReads'. -/
def generalReadsCard : Claim7 := { stood := { row := generalReadsRow, standIns := [], harness := (true, "1619178096efb5064dd21d95da6f3d30affe6208b1aaee8354a4dfeffbf81dd0"), looks := false }, kinds := [], alts := [], laidByText := true, laidKinds := [.data, .data, .data, .data, .pinned], laidTests := true, laidLooks := .later }
def GeneralReadsCardSaid : Prop := Claim7.holds Tryz.pinned (.plain (OpenSpec.ofChange generalReadsSpec)) generalReadsCard

/-- THE TIED CARD OF 'quittancelaw15.GeneralMeets'. -/
def generalMeetsCard : Claim7 := { stood := { row := generalMeetsRow, standIns := [], harness := (true, "1619178096efb5064dd21d95da6f3d30affe6208b1aaee8354a4dfeffbf81dd0"), looks := false }, kinds := [], alts := [], laidByText := true, laidKinds := [.data, .data, .data, .data, .pinned], laidTests := true, laidLooks := .later }
def GeneralMeetsCardSaid : Prop := Claim7.holds Tryz.pinned (.plain (OpenSpec.ofChange generalMeetsSpec)) generalMeetsCard

/-- THE TIED CARD OF 'quittancelaw15.GeneralPicks'. -/
def generalPicksCard : Claim7 := { stood := { row := generalPicksRow, standIns := [], harness := (true, "1619178096efb5064dd21d95da6f3d30affe6208b1aaee8354a4dfeffbf81dd0"), looks := false }, kinds := [], alts := [], laidByText := true, laidKinds := [.data, .data, .data, .data, .pinned], laidTests := true, laidLooks := .later }
def GeneralPicksCardSaid : Prop := Claim7.holds Tryz.pinned (.plain (OpenSpec.ofChange generalPicksSpec)) generalPicksCard

/-- THE TIED CARD OF 'quittancelaw15.GeneralWrites'. -/
def generalWritesCard : Claim7 := { stood := { row := generalWritesRow, standIns := [], harness := (true, "1619178096efb5064dd21d95da6f3d30affe6208b1aaee8354a4dfeffbf81dd0"), looks := false }, kinds := [], alts := [], laidByText := true, laidKinds := [.data, .data, .data, .data, .pinned], laidTests := true, laidLooks := .later }
def GeneralWritesCardSaid : Prop := Claim7.holds Tryz.pinned (.plain (OpenSpec.ofChange generalWritesSpec)) generalWritesCard

/-- THE TIED CARD OF 'quittancelaw15.GeneralLists'. -/
def generalListsCard : Claim7 := { stood := { row := generalListsRow, standIns := [], harness := (true, "1619178096efb5064dd21d95da6f3d30affe6208b1aaee8354a4dfeffbf81dd0"), looks := false }, kinds := [], alts := [], laidByText := true, laidKinds := [.data, .data, .data, .data, .pinned], laidTests := true, laidLooks := .later }
def GeneralListsCardSaid : Prop := Claim7.holds Tryz.pinned (.plain (OpenSpec.ofChange generalListsSpec)) generalListsCard

/-- THE TIED CARD OF 'quittancelaw15.GeneralBack'. -/
def generalBackCard : Claim7 := { stood := { row := generalBackRow, standIns := [], harness := (true, "1619178096efb5064dd21d95da6f3d30affe6208b1aaee8354a4dfeffbf81dd0"), looks := false }, kinds := [], alts := [], laidByText := true, laidKinds := [.data, .data, .data, .data, .pinned], laidTests := true, laidLooks := .later }
def GeneralBackCardSaid : Prop := Claim7.holds Tryz.pinned (.plain (OpenSpec.ofChange generalBackSpec)) generalBackCard

/-- THE SECOND FORM's CARD OF 'quittancelaw14.NameBack'. -/
def nameBackUptoCard : Claim7 := { stood := { row := nameBackUptoRow, standIns := [], harness := (true, "1619178096efb5064dd21d95da6f3d30affe6208b1aaee8354a4dfeffbf81dd0"), looks := false }, kinds := [], alts := [], laidByText := true, laidKinds := [.data, .data, .data, .data, .pinned], laidTests := true, laidLooks := .later }
def NameBackUptoCardSaid : Prop := Claim7.holds Tryz.pinned (.plain (OpenSpec.upto nameBackSpec)) nameBackUptoCard

/-- THE SECOND FORM's CARD OF 'quittancelaw15.GeneralReads'. -/
def generalReadsUptoCard : Claim7 := { stood := { row := generalReadsUptoRow, standIns := [], harness := (true, "1619178096efb5064dd21d95da6f3d30affe6208b1aaee8354a4dfeffbf81dd0"), looks := false }, kinds := [], alts := [], laidByText := true, laidKinds := [.data, .data, .data, .data, .pinned], laidTests := true, laidLooks := .later }
def GeneralReadsUptoCardSaid : Prop := Claim7.holds Tryz.pinned (.plain (OpenSpec.upto generalReadsSpec)) generalReadsUptoCard

/-- THE SECOND FORM's CARD OF 'quittancelaw15.GeneralMeets'. -/
def generalMeetsUptoCard : Claim7 := { stood := { row := generalMeetsUptoRow, standIns := [], harness := (true, "1619178096efb5064dd21d95da6f3d30affe6208b1aaee8354a4dfeffbf81dd0"), looks := false }, kinds := [], alts := [], laidByText := true, laidKinds := [.data, .data, .data, .data, .pinned], laidTests := true, laidLooks := .later }
def GeneralMeetsUptoCardSaid : Prop := Claim7.holds Tryz.pinned (.plain (OpenSpec.upto generalMeetsSpec)) generalMeetsUptoCard

/-- THE SECOND FORM's CARD OF 'quittancelaw15.GeneralPicks'. -/
def generalPicksUptoCard : Claim7 := { stood := { row := generalPicksUptoRow, standIns := [], harness := (true, "1619178096efb5064dd21d95da6f3d30affe6208b1aaee8354a4dfeffbf81dd0"), looks := false }, kinds := [], alts := [], laidByText := true, laidKinds := [.data, .data, .data, .data, .pinned], laidTests := true, laidLooks := .later }
def GeneralPicksUptoCardSaid : Prop := Claim7.holds Tryz.pinned (.plain (OpenSpec.upto generalPicksSpec)) generalPicksUptoCard

/-- THE SECOND FORM's CARD OF 'quittancelaw15.GeneralWrites'. -/
def generalWritesUptoCard : Claim7 := { stood := { row := generalWritesUptoRow, standIns := [], harness := (true, "1619178096efb5064dd21d95da6f3d30affe6208b1aaee8354a4dfeffbf81dd0"), looks := false }, kinds := [], alts := [], laidByText := true, laidKinds := [.data, .data, .data, .data, .pinned], laidTests := true, laidLooks := .later }
def GeneralWritesUptoCardSaid : Prop := Claim7.holds Tryz.pinned (.plain (OpenSpec.upto generalWritesSpec)) generalWritesUptoCard

/-- THE SECOND FORM's CARD OF 'quittancelaw15.GeneralLists'. -/
def generalListsUptoCard : Claim7 := { stood := { row := generalListsUptoRow, standIns := [], harness := (true, "1619178096efb5064dd21d95da6f3d30affe6208b1aaee8354a4dfeffbf81dd0"), looks := false }, kinds := [], alts := [], laidByText := true, laidKinds := [.data, .data, .data, .data, .pinned], laidTests := true, laidLooks := .later }
def GeneralListsUptoCardSaid : Prop := Claim7.holds Tryz.pinned (.plain (OpenSpec.upto generalListsSpec)) generalListsUptoCard

/-- THE SECOND FORM's CARD OF 'quittancelaw15.GeneralBack'. -/
def generalBackUptoCard : Claim7 := { stood := { row := generalBackUptoRow, standIns := [], harness := (true, "1619178096efb5064dd21d95da6f3d30affe6208b1aaee8354a4dfeffbf81dd0"), looks := false }, kinds := [], alts := [], laidByText := true, laidKinds := [.data, .data, .data, .data, .pinned], laidTests := true, laidLooks := .later }
def GeneralBackUptoCardSaid : Prop := Claim7.holds Tryz.pinned (.plain (OpenSpec.upto generalBackSpec)) generalBackUptoCard
end Rows
end Go.Proofs.YtacekpdjapgfcaaGreatDoor
