/-
  DERIVED. GIVEN WITH THE SEED: THE CARDS: each row of YtbdabjhankgcmaaDoorRows.lean that lists a variable, with what it lists TIED to the program's text (the seventh form; the later family's looks); each row that meets fmt, with fmt's text TOLD by the authors' own Lean function (tested against real Go, not proved from fmt's source: count such statements apart). THE CARD IS WHAT COUNTS. Prove the row's statement (the work); the ties are given (YtbdabjhankgcmaaDoorTie.lean); close each card by the builder's one call (the guide's Derived/Test/ToyasCard.lean, 'card_holds'). Laid BY PROGRAM, IN A SANDBOX (cutbox-door.mjs). By AI agents, Wed Nov 11 2026. No macro, syntax, notation, axiom, sorry.
-/
import Derived.Test.YtbdabjhankgcmaaDoorRows
import GoSem.ClaimSeven
namespace Go.Proofs.YtbdabjhankgcmaaDoor
namespace Rows

/-- THE TIED CARD OF 'namedesklaw17.ValidHyphens'. -/
def validHyphensCard : Claim7 := { stood := { row := validHyphensRow, standIns := [], harness := (true, "ff5b64a9d9469681115fcf859293ea535f2e946b1c62f47c5cb1afefe7a7160d"), looks := false }, kinds := [], alts := [], laidByText := true, laidKinds := [.data], laidTests := true, laidLooks := .later }
def ValidHyphensCardSaid : Prop := Claim7.holds Tryd.pinned (.plain (OpenSpec.ofChange validHyphensSpec)) validHyphensCard

/-- THE TIED CARD OF 'namedesklaw17.ValidLetters'. -/
def validLettersCard : Claim7 := { stood := { row := validLettersRow, standIns := [], harness := (true, "ff5b64a9d9469681115fcf859293ea535f2e946b1c62f47c5cb1afefe7a7160d"), looks := false }, kinds := [], alts := [], laidByText := true, laidKinds := [.data], laidTests := true, laidLooks := .later }
def ValidLettersCardSaid : Prop := Claim7.holds Tryd.pinned (.plain (OpenSpec.ofChange validLettersSpec)) validLettersCard

/-- THE TIED CARD OF 'namedesklaw17.ValidOrder'. -/
def validOrderCard : Claim7 := { stood := { row := validOrderRow, standIns := [], harness := (true, "ff5b64a9d9469681115fcf859293ea535f2e946b1c62f47c5cb1afefe7a7160d"), looks := false }, kinds := [], alts := [], laidByText := true, laidKinds := [.data], laidTests := true, laidLooks := .later }
def ValidOrderCardSaid : Prop := Claim7.holds Tryd.pinned (.plain (OpenSpec.ofChange validOrderSpec)) validOrderCard

/-- THE SECOND FORM's CARD OF 'namedesklaw17.ValidHyphens'. -/
def validHyphensUptoCard : Claim7 := { stood := { row := validHyphensUptoRow, standIns := [], harness := (true, "ff5b64a9d9469681115fcf859293ea535f2e946b1c62f47c5cb1afefe7a7160d"), looks := false }, kinds := [], alts := [], laidByText := true, laidKinds := [.data], laidTests := true, laidLooks := .later }
def ValidHyphensUptoCardSaid : Prop := Claim7.holds Tryd.pinned (.plain (OpenSpec.upto validHyphensSpec)) validHyphensUptoCard

/-- THE SECOND FORM's CARD OF 'namedesklaw17.ValidLetters'. -/
def validLettersUptoCard : Claim7 := { stood := { row := validLettersUptoRow, standIns := [], harness := (true, "ff5b64a9d9469681115fcf859293ea535f2e946b1c62f47c5cb1afefe7a7160d"), looks := false }, kinds := [], alts := [], laidByText := true, laidKinds := [.data], laidTests := true, laidLooks := .later }
def ValidLettersUptoCardSaid : Prop := Claim7.holds Tryd.pinned (.plain (OpenSpec.upto validLettersSpec)) validLettersUptoCard

/-- THE SECOND FORM's CARD OF 'namedesklaw17.ValidOrder'. -/
def validOrderUptoCard : Claim7 := { stood := { row := validOrderUptoRow, standIns := [], harness := (true, "ff5b64a9d9469681115fcf859293ea535f2e946b1c62f47c5cb1afefe7a7160d"), looks := false }, kinds := [], alts := [], laidByText := true, laidKinds := [.data], laidTests := true, laidLooks := .later }
def ValidOrderUptoCardSaid : Prop := Claim7.holds Tryd.pinned (.plain (OpenSpec.upto validOrderSpec)) validOrderUptoCard
end Rows
end Go.Proofs.YtbdabjhankgcmaaDoor
