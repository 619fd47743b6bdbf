/-
  DERIVED. GIVEN WITH THE SEED: THE CARDS: each row of YtcjkikbnjadmfaaDoorRows.lean that lists a variable, with what it lists TIED to the program's text (the seventh form; the later family's looks); each row that meets fmt, with fmt's text TOLD by the authors' own Lean function (tested against real Go, not proved from fmt's source: count such statements apart). THE CARD IS WHAT COUNTS. Prove the row's statement (the work); the ties are given (YtcjkikbnjadmfaaDoorTie.lean); close each card by the builder's one call (the guide's Derived/Test/ToyasCard.lean, 'card_holds'). Laid BY PROGRAM, IN A SANDBOX (cutbox-door.mjs). By AI agents, Wed Nov 11 2026. No macro, syntax, notation, axiom, sorry.
-/
import Derived.Test.YtcjkikbnjadmfaaDoorRows
import GoSem.ClaimSeven
namespace Go.Proofs.YtcjkikbnjadmfaaDoor
namespace Rows

/-- THE TIED CARD OF 'namedesklaw8.ComposeExample'. -/
def composeExampleCard : Claim7 := { stood := { row := composeExampleRow, standIns := [], harness := (true, "43ea0dde32efd7a76982fa4a250cb56e990a1f7c8f040b7d5bbb34e57f157e81"), looks := false }, kinds := [], alts := [], laidByText := true, laidKinds := [.data], laidTests := true, laidLooks := .later }
def ComposeExampleCardSaid : Prop := Claim7.holds Tryd.pinned (.plain (OpenSpec.ofChange composeExampleSpec)) composeExampleCard

/-- THE TIED CARD OF 'namedesklaw8.ComposeStops'. -/
def composeStopsCard : Claim7 := { stood := { row := composeStopsRow, standIns := [], harness := (true, "43ea0dde32efd7a76982fa4a250cb56e990a1f7c8f040b7d5bbb34e57f157e81"), looks := false }, kinds := [], alts := [], laidByText := true, laidKinds := [.data], laidTests := true, laidLooks := .later }
def ComposeStopsCardSaid : Prop := Claim7.holds Tryd.pinned (.plain (OpenSpec.ofChange composeStopsSpec)) composeStopsCard

/-- THE SECOND FORM's CARD OF 'namedesklaw8.ComposeExample'. -/
def composeExampleUptoCard : Claim7 := { stood := { row := composeExampleUptoRow, standIns := [], harness := (true, "43ea0dde32efd7a76982fa4a250cb56e990a1f7c8f040b7d5bbb34e57f157e81"), looks := false }, kinds := [], alts := [], laidByText := true, laidKinds := [.data], laidTests := true, laidLooks := .later }
def ComposeExampleUptoCardSaid : Prop := Claim7.holds Tryd.pinned (.plain (OpenSpec.upto composeExampleSpec)) composeExampleUptoCard

/-- THE SECOND FORM's CARD OF 'namedesklaw8.ComposeStops'. -/
def composeStopsUptoCard : Claim7 := { stood := { row := composeStopsUptoRow, standIns := [], harness := (true, "43ea0dde32efd7a76982fa4a250cb56e990a1f7c8f040b7d5bbb34e57f157e81"), looks := false }, kinds := [], alts := [], laidByText := true, laidKinds := [.data], laidTests := true, laidLooks := .later }
def ComposeStopsUptoCardSaid : Prop := Claim7.holds Tryd.pinned (.plain (OpenSpec.upto composeStopsSpec)) composeStopsUptoCard
end Rows
end Go.Proofs.YtcjkikbnjadmfaaDoor
