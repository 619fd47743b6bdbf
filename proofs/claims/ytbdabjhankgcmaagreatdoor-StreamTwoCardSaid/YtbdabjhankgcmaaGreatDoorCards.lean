/-
  DERIVED. GIVEN WITH THE SEED: THE CARDS: each row of YtbdabjhankgcmaaGreatDoorRows.lean that lists a variable, with what it lists TIED to the program's text (the seventh form; the later family's looks); each row that meets fmt, with fmt's text TOLD by the authors' own Lean function (tested against real Go, not proved from fmt's source: count such statements apart). THE CARD IS WHAT COUNTS. Prove the row's statement (the work); the ties are given (YtbdabjhankgcmaaGreatDoorTie.lean); close each card by the builder's one call (the guide's Derived/Test/ToyasCard.lean, 'card_holds'). Laid BY PROGRAM, IN A SANDBOX (cutbox-door.mjs). By AI agents, Wed Nov 11 2026. No macro, syntax, notation, axiom, sorry.
-/
import Derived.Test.YtbdabjhankgcmaaGreatDoorRows
import GoSem.ClaimSeven
namespace Go.Proofs.YtbdabjhankgcmaaGreatDoor
namespace Rows

/-- THE TIED CARD OF 'namedesklaw8.ComposeEquivalent'. -/
def composeEquivalentCard : Claim7 := { stood := { row := composeEquivalentRow, standIns := [], harness := (true, "d8374bbe1c377d62e902df0dda6e81c414541cabead8295f4e4811b8dd48f714"), looks := false }, kinds := [], alts := [], laidByText := true, laidKinds := [.data], laidTests := true, laidLooks := .later }
def ComposeEquivalentCardSaid : Prop := Claim7.holds Tryz.pinned (.plain (OpenSpec.ofChange composeEquivalentSpec)) composeEquivalentCard

/-- THE TIED CARD OF 'namedesklaw9.StreamNew'. -/
def streamNewCard : Claim7 := { stood := { row := streamNewRow, standIns := [], harness := (true, "d8374bbe1c377d62e902df0dda6e81c414541cabead8295f4e4811b8dd48f714"), looks := false }, kinds := [], alts := [], laidByText := true, laidKinds := [.data], laidTests := true, laidLooks := .later }
def StreamNewCardSaid : Prop := Claim7.holds Tryz.pinned (.plain (OpenSpec.ofChange streamNewSpec)) streamNewCard

/-- THE TIED CARD OF 'namedesklaw9.StreamPush'. -/
def streamPushCard : Claim7 := { stood := { row := streamPushRow, standIns := [], harness := (true, "d8374bbe1c377d62e902df0dda6e81c414541cabead8295f4e4811b8dd48f714"), looks := false }, kinds := [], alts := [], laidByText := true, laidKinds := [.data], laidTests := true, laidLooks := .later }
def StreamPushCardSaid : Prop := Claim7.holds Tryz.pinned (.plain (OpenSpec.ofChange streamPushSpec)) streamPushCard

/-- THE TIED CARD OF 'namedesklaw9.StreamWhole'. -/
def streamWholeCard : Claim7 := { stood := { row := streamWholeRow, standIns := [], harness := (true, "d8374bbe1c377d62e902df0dda6e81c414541cabead8295f4e4811b8dd48f714"), looks := false }, kinds := [], alts := [], laidByText := true, laidKinds := [.data], laidTests := true, laidLooks := .later }
def StreamWholeCardSaid : Prop := Claim7.holds Tryz.pinned (.plain (OpenSpec.ofChange streamWholeSpec)) streamWholeCard

/-- THE TIED CARD OF 'namedesklaw9.StreamRefused'. -/
def streamRefusedCard : Claim7 := { stood := { row := streamRefusedRow, standIns := [], harness := (true, "d8374bbe1c377d62e902df0dda6e81c414541cabead8295f4e4811b8dd48f714"), looks := false }, kinds := [], alts := [], laidByText := true, laidKinds := [.data], laidTests := true, laidLooks := .later }
def StreamRefusedCardSaid : Prop := Claim7.holds Tryz.pinned (.plain (OpenSpec.ofChange streamRefusedSpec)) streamRefusedCard

/-- THE TIED CARD OF 'namedesklaw9.StreamBoundary'. -/
def streamBoundaryCard : Claim7 := { stood := { row := streamBoundaryRow, standIns := [], harness := (true, "d8374bbe1c377d62e902df0dda6e81c414541cabead8295f4e4811b8dd48f714"), looks := false }, kinds := [], alts := [], laidByText := true, laidKinds := [.data], laidTests := true, laidLooks := .later }
def StreamBoundaryCardSaid : Prop := Claim7.holds Tryz.pinned (.plain (OpenSpec.ofChange streamBoundarySpec)) streamBoundaryCard

/-- THE TIED CARD OF 'namedesklaw9.StreamTwo'. -/
def streamTwoCard : Claim7 := { stood := { row := streamTwoRow, standIns := [], harness := (true, "d8374bbe1c377d62e902df0dda6e81c414541cabead8295f4e4811b8dd48f714"), looks := false }, kinds := [], alts := [], laidByText := true, laidKinds := [.data], laidTests := true, laidLooks := .later }
def StreamTwoCardSaid : Prop := Claim7.holds Tryz.pinned (.plain (OpenSpec.ofChange streamTwoSpec)) streamTwoCard

/-- THE TIED CARD OF 'namedesklaw17.ValidMade'. -/
def validMadeCard : Claim7 := { stood := { row := validMadeRow, standIns := [], harness := (true, "d8374bbe1c377d62e902df0dda6e81c414541cabead8295f4e4811b8dd48f714"), looks := false }, kinds := [], alts := [], laidByText := true, laidKinds := [.data], laidTests := true, laidLooks := .later }
def ValidMadeCardSaid : Prop := Claim7.holds Tryz.pinned (.plain (OpenSpec.ofChange validMadeSpec)) validMadeCard

/-- THE TIED CARD OF 'namedesklaw17.ValidErrors'. -/
def validErrorsCard : Claim7 := { stood := { row := validErrorsRow, standIns := [], harness := (true, "d8374bbe1c377d62e902df0dda6e81c414541cabead8295f4e4811b8dd48f714"), looks := false }, kinds := [], alts := [], laidByText := true, laidKinds := [.data], laidTests := true, laidLooks := .later }
def ValidErrorsCardSaid : Prop := Claim7.holds Tryz.pinned (.plain (OpenSpec.ofChange validErrorsSpec)) validErrorsCard

/-- THE TIED CARD OF 'namedesklaw17.ValidNormal'. -/
def validNormalCard : Claim7 := { stood := { row := validNormalRow, standIns := [], harness := (true, "d8374bbe1c377d62e902df0dda6e81c414541cabead8295f4e4811b8dd48f714"), looks := false }, kinds := [], alts := [], laidByText := true, laidKinds := [.data], laidTests := true, laidLooks := .later }
def ValidNormalCardSaid : Prop := Claim7.holds Tryz.pinned (.plain (OpenSpec.ofChange validNormalSpec)) validNormalCard

/-- THE SECOND FORM's CARD OF 'namedesklaw8.ComposeEquivalent'. -/
def composeEquivalentUptoCard : Claim7 := { stood := { row := composeEquivalentUptoRow, standIns := [], harness := (true, "d8374bbe1c377d62e902df0dda6e81c414541cabead8295f4e4811b8dd48f714"), looks := false }, kinds := [], alts := [], laidByText := true, laidKinds := [.data], laidTests := true, laidLooks := .later }
def ComposeEquivalentUptoCardSaid : Prop := Claim7.holds Tryz.pinned (.plain (OpenSpec.upto composeEquivalentSpec)) composeEquivalentUptoCard

/-- THE SECOND FORM's CARD OF 'namedesklaw9.StreamNew'. -/
def streamNewUptoCard : Claim7 := { stood := { row := streamNewUptoRow, standIns := [], harness := (true, "d8374bbe1c377d62e902df0dda6e81c414541cabead8295f4e4811b8dd48f714"), looks := false }, kinds := [], alts := [], laidByText := true, laidKinds := [.data], laidTests := true, laidLooks := .later }
def StreamNewUptoCardSaid : Prop := Claim7.holds Tryz.pinned (.plain (OpenSpec.upto streamNewSpec)) streamNewUptoCard

/-- THE SECOND FORM's CARD OF 'namedesklaw9.StreamPush'. -/
def streamPushUptoCard : Claim7 := { stood := { row := streamPushUptoRow, standIns := [], harness := (true, "d8374bbe1c377d62e902df0dda6e81c414541cabead8295f4e4811b8dd48f714"), looks := false }, kinds := [], alts := [], laidByText := true, laidKinds := [.data], laidTests := true, laidLooks := .later }
def StreamPushUptoCardSaid : Prop := Claim7.holds Tryz.pinned (.plain (OpenSpec.upto streamPushSpec)) streamPushUptoCard

/-- THE SECOND FORM's CARD OF 'namedesklaw9.StreamWhole'. -/
def streamWholeUptoCard : Claim7 := { stood := { row := streamWholeUptoRow, standIns := [], harness := (true, "d8374bbe1c377d62e902df0dda6e81c414541cabead8295f4e4811b8dd48f714"), looks := false }, kinds := [], alts := [], laidByText := true, laidKinds := [.data], laidTests := true, laidLooks := .later }
def StreamWholeUptoCardSaid : Prop := Claim7.holds Tryz.pinned (.plain (OpenSpec.upto streamWholeSpec)) streamWholeUptoCard

/-- THE SECOND FORM's CARD OF 'namedesklaw9.StreamRefused'. -/
def streamRefusedUptoCard : Claim7 := { stood := { row := streamRefusedUptoRow, standIns := [], harness := (true, "d8374bbe1c377d62e902df0dda6e81c414541cabead8295f4e4811b8dd48f714"), looks := false }, kinds := [], alts := [], laidByText := true, laidKinds := [.data], laidTests := true, laidLooks := .later }
def StreamRefusedUptoCardSaid : Prop := Claim7.holds Tryz.pinned (.plain (OpenSpec.upto streamRefusedSpec)) streamRefusedUptoCard

/-- THE SECOND FORM's CARD OF 'namedesklaw9.StreamBoundary'. -/
def streamBoundaryUptoCard : Claim7 := { stood := { row := streamBoundaryUptoRow, standIns := [], harness := (true, "d8374bbe1c377d62e902df0dda6e81c414541cabead8295f4e4811b8dd48f714"), looks := false }, kinds := [], alts := [], laidByText := true, laidKinds := [.data], laidTests := true, laidLooks := .later }
def StreamBoundaryUptoCardSaid : Prop := Claim7.holds Tryz.pinned (.plain (OpenSpec.upto streamBoundarySpec)) streamBoundaryUptoCard

/-- THE SECOND FORM's CARD OF 'namedesklaw9.StreamTwo'. -/
def streamTwoUptoCard : Claim7 := { stood := { row := streamTwoUptoRow, standIns := [], harness := (true, "d8374bbe1c377d62e902df0dda6e81c414541cabead8295f4e4811b8dd48f714"), looks := false }, kinds := [], alts := [], laidByText := true, laidKinds := [.data], laidTests := true, laidLooks := .later }
def StreamTwoUptoCardSaid : Prop := Claim7.holds Tryz.pinned (.plain (OpenSpec.upto streamTwoSpec)) streamTwoUptoCard

/-- THE SECOND FORM's CARD OF 'namedesklaw17.ValidMade'. -/
def validMadeUptoCard : Claim7 := { stood := { row := validMadeUptoRow, standIns := [], harness := (true, "d8374bbe1c377d62e902df0dda6e81c414541cabead8295f4e4811b8dd48f714"), looks := false }, kinds := [], alts := [], laidByText := true, laidKinds := [.data], laidTests := true, laidLooks := .later }
def ValidMadeUptoCardSaid : Prop := Claim7.holds Tryz.pinned (.plain (OpenSpec.upto validMadeSpec)) validMadeUptoCard

/-- THE SECOND FORM's CARD OF 'namedesklaw17.ValidErrors'. -/
def validErrorsUptoCard : Claim7 := { stood := { row := validErrorsUptoRow, standIns := [], harness := (true, "d8374bbe1c377d62e902df0dda6e81c414541cabead8295f4e4811b8dd48f714"), looks := false }, kinds := [], alts := [], laidByText := true, laidKinds := [.data], laidTests := true, laidLooks := .later }
def ValidErrorsUptoCardSaid : Prop := Claim7.holds Tryz.pinned (.plain (OpenSpec.upto validErrorsSpec)) validErrorsUptoCard

/-- THE SECOND FORM's CARD OF 'namedesklaw17.ValidNormal'. -/
def validNormalUptoCard : Claim7 := { stood := { row := validNormalUptoRow, standIns := [], harness := (true, "d8374bbe1c377d62e902df0dda6e81c414541cabead8295f4e4811b8dd48f714"), looks := false }, kinds := [], alts := [], laidByText := true, laidKinds := [.data], laidTests := true, laidLooks := .later }
def ValidNormalUptoCardSaid : Prop := Claim7.holds Tryz.pinned (.plain (OpenSpec.upto validNormalSpec)) validNormalUptoCard
end Rows
end Go.Proofs.YtbdabjhankgcmaaGreatDoor
