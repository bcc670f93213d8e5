/-
  DERIVED. GIVEN WITH THE SEED: THE CARDS: each row of YthjcoolefboodaaGreatDoorRows.lean that lists a variable, with what it lists TIED to the program's text (the seventh form; the later family's looks); each row that meets fmt, with fmt's text TOLD by the authors' own Lean function (tested against real Go, not proved from fmt's source: count such statements apart). THE CARD IS WHAT COUNTS. Prove the row's statement (the work); the ties are given (YthjcoolefboodaaGreatDoorTie.lean); close each card by the builder's one call (the guide's Derived/Test/ToyasCard.lean, 'card_holds'). Laid BY PROGRAM, IN A SANDBOX (cutbox-door.mjs). By AI agents, Wed Nov 11 2026. No macro, syntax, notation, axiom, sorry.
-/
import Derived.Test.YthjcoolefboodaaGreatDoorRows
import GoSem.ClaimSeven
namespace Go.Proofs.YthjcoolefboodaaGreatDoor
namespace Rows

/-- THE TIED CARD OF 'quittancelaw20.CertIssued'. -/
def certIssuedCard : Claim7 := { stood := { row := certIssuedRow, standIns := [], harness := (true, "116d491763e98e776a530f9da96f3bd36b705f46950f9eeafdc52b13ebf9a512"), looks := false }, kinds := [], alts := [], laidByText := true, laidKinds := [.data, .data, .data, .data, .pinned], laidTests := true, laidLooks := .later }
def CertIssuedCardSaid : Prop := Claim7.holds Tryz.pinned (.plain (OpenSpec.ofChange certIssuedSpec)) certIssuedCard

/-- THE SECOND FORM's CARD OF 'quittancelaw20.CertIssued'. -/
def certIssuedUptoCard : Claim7 := { stood := { row := certIssuedUptoRow, standIns := [], harness := (true, "116d491763e98e776a530f9da96f3bd36b705f46950f9eeafdc52b13ebf9a512"), looks := false }, kinds := [], alts := [], laidByText := true, laidKinds := [.data, .data, .data, .data, .pinned], laidTests := true, laidLooks := .later }
def CertIssuedUptoCardSaid : Prop := Claim7.holds Tryz.pinned (.plain (OpenSpec.upto certIssuedSpec)) certIssuedUptoCard
end Rows
end Go.Proofs.YthjcoolefboodaaGreatDoor
