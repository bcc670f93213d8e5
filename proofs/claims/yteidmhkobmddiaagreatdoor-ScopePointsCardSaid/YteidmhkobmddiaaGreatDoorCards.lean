/-
  DERIVED. GIVEN WITH THE SEED: THE CARDS: each row of YteidmhkobmddiaaGreatDoorRows.lean that lists a variable, with what it lists TIED to the program's text (the seventh form; the later family's looks); each row that meets fmt, with fmt's text TOLD by the authors' own Lean function (tested against real Go, not proved from fmt's source: count such statements apart). THE CARD IS WHAT COUNTS. Prove the row's statement (the work); the ties are given (YteidmhkobmddiaaGreatDoorTie.lean); close each card by the builder's one call (the guide's Derived/Test/ToyasCard.lean, 'card_holds'). Laid BY PROGRAM, IN A SANDBOX (cutbox-door.mjs). By AI agents, Wed Nov 11 2026. No macro, syntax, notation, axiom, sorry.
-/
import Derived.Test.YteidmhkobmddiaaGreatDoorRows
import GoSem.ClaimSeven
namespace Go.Proofs.YteidmhkobmddiaaGreatDoor
namespace Rows

/-- THE TIED CARD OF 'quittancelaw23.ScopeCovers'. -/
def scopeCoversCard : Claim7 := { stood := { row := scopeCoversRow, standIns := [], harness := (true, "01fd02fb661377ff8ee35e02181b3e32008614a0630c7b8d47ff0ffeb97dd2ff"), looks := false }, kinds := [], alts := [], laidByText := true, laidKinds := [.data, .data, .data, .data, .pinned], laidTests := true, laidLooks := .later }
def ScopeCoversCardSaid : Prop := Claim7.holds Tryz.pinned (.plain (OpenSpec.ofChange scopeCoversSpec)) scopeCoversCard

/-- THE TIED CARD OF 'quittancelaw23.ScopeRules'. -/
def scopeRulesCard : Claim7 := { stood := { row := scopeRulesRow, standIns := [], harness := (true, "01fd02fb661377ff8ee35e02181b3e32008614a0630c7b8d47ff0ffeb97dd2ff"), looks := false }, kinds := [], alts := [], laidByText := true, laidKinds := [.data, .data, .data, .data, .pinned], laidTests := true, laidLooks := .later }
def ScopeRulesCardSaid : Prop := Claim7.holds Tryz.pinned (.plain (OpenSpec.ofChange scopeRulesSpec)) scopeRulesCard

/-- THE TIED CARD OF 'quittancelaw23.ScopePoints'. -/
def scopePointsCard : Claim7 := { stood := { row := scopePointsRow, standIns := [], harness := (true, "01fd02fb661377ff8ee35e02181b3e32008614a0630c7b8d47ff0ffeb97dd2ff"), looks := false }, kinds := [], alts := [], laidByText := true, laidKinds := [.data, .data, .data, .data, .pinned], laidTests := true, laidLooks := .later }
def ScopePointsCardSaid : Prop := Claim7.holds Tryz.pinned (.plain (OpenSpec.ofChange scopePointsSpec)) scopePointsCard

/-- THE TIED CARD OF 'quittancelaw23.ScopeAdmits'. -/
def scopeAdmitsCard : Claim7 := { stood := { row := scopeAdmitsRow, standIns := [], harness := (true, "01fd02fb661377ff8ee35e02181b3e32008614a0630c7b8d47ff0ffeb97dd2ff"), looks := false }, kinds := [], alts := [], laidByText := true, laidKinds := [.data, .data, .data, .data, .pinned], laidTests := true, laidLooks := .later }
def ScopeAdmitsCardSaid : Prop := Claim7.holds Tryz.pinned (.plain (OpenSpec.ofChange scopeAdmitsSpec)) scopeAdmitsCard

/-- THE SECOND FORM's CARD OF 'quittancelaw23.ScopeCovers'. -/
def scopeCoversUptoCard : Claim7 := { stood := { row := scopeCoversUptoRow, standIns := [], harness := (true, "01fd02fb661377ff8ee35e02181b3e32008614a0630c7b8d47ff0ffeb97dd2ff"), looks := false }, kinds := [], alts := [], laidByText := true, laidKinds := [.data, .data, .data, .data, .pinned], laidTests := true, laidLooks := .later }
def ScopeCoversUptoCardSaid : Prop := Claim7.holds Tryz.pinned (.plain (OpenSpec.upto scopeCoversSpec)) scopeCoversUptoCard

/-- THE SECOND FORM's CARD OF 'quittancelaw23.ScopeRules'. -/
def scopeRulesUptoCard : Claim7 := { stood := { row := scopeRulesUptoRow, standIns := [], harness := (true, "01fd02fb661377ff8ee35e02181b3e32008614a0630c7b8d47ff0ffeb97dd2ff"), looks := false }, kinds := [], alts := [], laidByText := true, laidKinds := [.data, .data, .data, .data, .pinned], laidTests := true, laidLooks := .later }
def ScopeRulesUptoCardSaid : Prop := Claim7.holds Tryz.pinned (.plain (OpenSpec.upto scopeRulesSpec)) scopeRulesUptoCard

/-- THE SECOND FORM's CARD OF 'quittancelaw23.ScopePoints'. -/
def scopePointsUptoCard : Claim7 := { stood := { row := scopePointsUptoRow, standIns := [], harness := (true, "01fd02fb661377ff8ee35e02181b3e32008614a0630c7b8d47ff0ffeb97dd2ff"), looks := false }, kinds := [], alts := [], laidByText := true, laidKinds := [.data, .data, .data, .data, .pinned], laidTests := true, laidLooks := .later }
def ScopePointsUptoCardSaid : Prop := Claim7.holds Tryz.pinned (.plain (OpenSpec.upto scopePointsSpec)) scopePointsUptoCard

/-- THE SECOND FORM's CARD OF 'quittancelaw23.ScopeAdmits'. -/
def scopeAdmitsUptoCard : Claim7 := { stood := { row := scopeAdmitsUptoRow, standIns := [], harness := (true, "01fd02fb661377ff8ee35e02181b3e32008614a0630c7b8d47ff0ffeb97dd2ff"), looks := false }, kinds := [], alts := [], laidByText := true, laidKinds := [.data, .data, .data, .data, .pinned], laidTests := true, laidLooks := .later }
def ScopeAdmitsUptoCardSaid : Prop := Claim7.holds Tryz.pinned (.plain (OpenSpec.upto scopeAdmitsSpec)) scopeAdmitsUptoCard
end Rows
end Go.Proofs.YteidmhkobmddiaaGreatDoor
