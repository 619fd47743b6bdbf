/-
  DERIVED. GIVEN WITH THE SEED: THE CARDS: each row of YtcjkikbnjadmfaaGreatDoorRows.lean that lists a variable, with what it lists TIED to the program's text (the seventh form; the later family's looks); each row that meets fmt, with fmt's text TOLD by the authors' own Lean function (tested against real Go, not proved from fmt's source: count such statements apart). THE CARD IS WHAT COUNTS. Prove the row's statement (the work); the ties are given (YtcjkikbnjadmfaaGreatDoorTie.lean); close each card by the builder's one call (the guide's Derived/Test/ToyasCard.lean, 'card_holds'). Laid BY PROGRAM, IN A SANDBOX (cutbox-door.mjs). By AI agents, Wed Nov 11 2026. No macro, syntax, notation, axiom, sorry.
-/
import Derived.Test.YtcjkikbnjadmfaaGreatDoorRows
import GoSem.ClaimSeven
namespace Go.Proofs.YtcjkikbnjadmfaaGreatDoor
namespace Rows

/-- THE TIED CARD OF 'namedesklaw8.ComposeMade'. -/
def composeMadeCard : Claim7 := { stood := { row := composeMadeRow, standIns := [], harness := (true, "50a9d6a698053b38df76ab5ee9ad21490dc385ee35b2a1711ba227c96c0da629"), looks := false }, kinds := [], alts := [], laidByText := true, laidKinds := [.data], laidTests := true, laidLooks := .later }
def ComposeMadeCardSaid : Prop := Claim7.holds Tryz.pinned (.plain (OpenSpec.ofChange composeMadeSpec)) composeMadeCard

/-- THE TIED CARD OF 'namedesklaw8.ComposeTwice'. -/
def composeTwiceCard : Claim7 := { stood := { row := composeTwiceRow, standIns := [], harness := (true, "50a9d6a698053b38df76ab5ee9ad21490dc385ee35b2a1711ba227c96c0da629"), looks := false }, kinds := [], alts := [], laidByText := true, laidKinds := [.data], laidTests := true, laidLooks := .later }
def ComposeTwiceCardSaid : Prop := Claim7.holds Tryz.pinned (.plain (OpenSpec.ofChange composeTwiceSpec)) composeTwiceCard

/-- THE TIED CARD OF 'namedesklaw8.ComposeEquivalent'. -/
def composeEquivalentCard : Claim7 := { stood := { row := composeEquivalentRow, standIns := [], harness := (true, "50a9d6a698053b38df76ab5ee9ad21490dc385ee35b2a1711ba227c96c0da629"), looks := false }, kinds := [], alts := [], laidByText := true, laidKinds := [.data], laidTests := true, laidLooks := .later }
def ComposeEquivalentCardSaid : Prop := Claim7.holds Tryz.pinned (.plain (OpenSpec.ofChange composeEquivalentSpec)) composeEquivalentCard

/-- THE TIED CARD OF 'namedesklaw8.ComposeQuick'. -/
def composeQuickCard : Claim7 := { stood := { row := composeQuickRow, standIns := [], harness := (true, "50a9d6a698053b38df76ab5ee9ad21490dc385ee35b2a1711ba227c96c0da629"), looks := false }, kinds := [], alts := [], laidByText := true, laidKinds := [.data], laidTests := true, laidLooks := .later }
def ComposeQuickCardSaid : Prop := Claim7.holds Tryz.pinned (.plain (OpenSpec.ofChange composeQuickSpec)) composeQuickCard

/-- THE TIED CARD OF 'namedesklaw8.ComposeShorter'. -/
def composeShorterCard : Claim7 := { stood := { row := composeShorterRow, standIns := [], harness := (true, "50a9d6a698053b38df76ab5ee9ad21490dc385ee35b2a1711ba227c96c0da629"), looks := false }, kinds := [], alts := [], laidByText := true, laidKinds := [.data], laidTests := true, laidLooks := .later }
def ComposeShorterCardSaid : Prop := Claim7.holds Tryz.pinned (.plain (OpenSpec.ofChange composeShorterSpec)) composeShorterCard

/-- THE TIED CARD OF 'namedesklaw8.ComposePairs'. -/
def composePairsCard : Claim7 := { stood := { row := composePairsRow, standIns := [], harness := (true, "50a9d6a698053b38df76ab5ee9ad21490dc385ee35b2a1711ba227c96c0da629"), looks := false }, kinds := [], alts := [], laidByText := true, laidKinds := [.data], laidTests := true, laidLooks := .later }
def ComposePairsCardSaid : Prop := Claim7.holds Tryz.pinned (.plain (OpenSpec.ofChange composePairsSpec)) composePairsCard

/-- THE TIED CARD OF 'namedesklaw8.ComposeErrors'. -/
def composeErrorsCard : Claim7 := { stood := { row := composeErrorsRow, standIns := [], harness := (true, "50a9d6a698053b38df76ab5ee9ad21490dc385ee35b2a1711ba227c96c0da629"), looks := false }, kinds := [], alts := [], laidByText := true, laidKinds := [.data], laidTests := true, laidLooks := .later }
def ComposeErrorsCardSaid : Prop := Claim7.holds Tryz.pinned (.plain (OpenSpec.ofChange composeErrorsSpec)) composeErrorsCard

/-- THE SECOND FORM's CARD OF 'namedesklaw8.ComposeMade'. -/
def composeMadeUptoCard : Claim7 := { stood := { row := composeMadeUptoRow, standIns := [], harness := (true, "50a9d6a698053b38df76ab5ee9ad21490dc385ee35b2a1711ba227c96c0da629"), looks := false }, kinds := [], alts := [], laidByText := true, laidKinds := [.data], laidTests := true, laidLooks := .later }
def ComposeMadeUptoCardSaid : Prop := Claim7.holds Tryz.pinned (.plain (OpenSpec.upto composeMadeSpec)) composeMadeUptoCard

/-- THE SECOND FORM's CARD OF 'namedesklaw8.ComposeTwice'. -/
def composeTwiceUptoCard : Claim7 := { stood := { row := composeTwiceUptoRow, standIns := [], harness := (true, "50a9d6a698053b38df76ab5ee9ad21490dc385ee35b2a1711ba227c96c0da629"), looks := false }, kinds := [], alts := [], laidByText := true, laidKinds := [.data], laidTests := true, laidLooks := .later }
def ComposeTwiceUptoCardSaid : Prop := Claim7.holds Tryz.pinned (.plain (OpenSpec.upto composeTwiceSpec)) composeTwiceUptoCard

/-- THE SECOND FORM's CARD OF 'namedesklaw8.ComposeEquivalent'. -/
def composeEquivalentUptoCard : Claim7 := { stood := { row := composeEquivalentUptoRow, standIns := [], harness := (true, "50a9d6a698053b38df76ab5ee9ad21490dc385ee35b2a1711ba227c96c0da629"), looks := false }, kinds := [], alts := [], laidByText := true, laidKinds := [.data], laidTests := true, laidLooks := .later }
def ComposeEquivalentUptoCardSaid : Prop := Claim7.holds Tryz.pinned (.plain (OpenSpec.upto composeEquivalentSpec)) composeEquivalentUptoCard

/-- THE SECOND FORM's CARD OF 'namedesklaw8.ComposeQuick'. -/
def composeQuickUptoCard : Claim7 := { stood := { row := composeQuickUptoRow, standIns := [], harness := (true, "50a9d6a698053b38df76ab5ee9ad21490dc385ee35b2a1711ba227c96c0da629"), looks := false }, kinds := [], alts := [], laidByText := true, laidKinds := [.data], laidTests := true, laidLooks := .later }
def ComposeQuickUptoCardSaid : Prop := Claim7.holds Tryz.pinned (.plain (OpenSpec.upto composeQuickSpec)) composeQuickUptoCard

/-- THE SECOND FORM's CARD OF 'namedesklaw8.ComposeShorter'. -/
def composeShorterUptoCard : Claim7 := { stood := { row := composeShorterUptoRow, standIns := [], harness := (true, "50a9d6a698053b38df76ab5ee9ad21490dc385ee35b2a1711ba227c96c0da629"), looks := false }, kinds := [], alts := [], laidByText := true, laidKinds := [.data], laidTests := true, laidLooks := .later }
def ComposeShorterUptoCardSaid : Prop := Claim7.holds Tryz.pinned (.plain (OpenSpec.upto composeShorterSpec)) composeShorterUptoCard

/-- THE SECOND FORM's CARD OF 'namedesklaw8.ComposePairs'. -/
def composePairsUptoCard : Claim7 := { stood := { row := composePairsUptoRow, standIns := [], harness := (true, "50a9d6a698053b38df76ab5ee9ad21490dc385ee35b2a1711ba227c96c0da629"), looks := false }, kinds := [], alts := [], laidByText := true, laidKinds := [.data], laidTests := true, laidLooks := .later }
def ComposePairsUptoCardSaid : Prop := Claim7.holds Tryz.pinned (.plain (OpenSpec.upto composePairsSpec)) composePairsUptoCard

/-- THE SECOND FORM's CARD OF 'namedesklaw8.ComposeErrors'. -/
def composeErrorsUptoCard : Claim7 := { stood := { row := composeErrorsUptoRow, standIns := [], harness := (true, "50a9d6a698053b38df76ab5ee9ad21490dc385ee35b2a1711ba227c96c0da629"), looks := false }, kinds := [], alts := [], laidByText := true, laidKinds := [.data], laidTests := true, laidLooks := .later }
def ComposeErrorsUptoCardSaid : Prop := Claim7.holds Tryz.pinned (.plain (OpenSpec.upto composeErrorsSpec)) composeErrorsUptoCard
end Rows
end Go.Proofs.YtcjkikbnjadmfaaGreatDoor
