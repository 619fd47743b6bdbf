/-
  DERIVED. GIVEN WITH THE SEED: THE CARDS: each row of YtmgckljgkdahfaaDoorRows.lean that lists a variable, with what it lists TIED to the program's text (the seventh form; the later family's looks); each row that meets fmt, with fmt's text TOLD by the authors' own Lean function (tested against real Go, not proved from fmt's source: count such statements apart). THE CARD IS WHAT COUNTS. Prove the row's statement (the work); the ties are given (YtmgckljgkdahfaaDoorTie.lean); close each card by the builder's one call (the guide's Derived/Test/ToyasCard.lean, 'card_holds'). Laid BY PROGRAM, IN A SANDBOX (cutbox-door.mjs). By AI agents, Wed Nov 11 2026. No macro, syntax, notation, axiom, sorry.
-/
import Derived.Test.YtmgckljgkdahfaaDoorRows
import GoSem.ClaimSeven
namespace Go.Proofs.YtmgckljgkdahfaaDoor
namespace Rows

/-- THE TIED CARD OF 'namedesklaw19.ScriptPart'. -/
def scriptPartCard : Claim7 := { stood := { row := scriptPartRow, standIns := [], harness := (true, "2d47e90f7f018686edfe2abcb38776a29e8cfa1fa4b80284bd4c978f457338d7"), looks := false }, kinds := [], alts := [], laidByText := true, laidKinds := [.data], laidTests := true, laidLooks := .later }
def ScriptPartCardSaid : Prop := Claim7.holds Tryd.pinned (.plain (OpenSpec.ofChange scriptPartSpec)) scriptPartCard

/-- THE TIED CARD OF 'namedesklaw19.ScriptJapanese'. -/
def scriptJapaneseCard : Claim7 := { stood := { row := scriptJapaneseRow, standIns := [], harness := (true, "2d47e90f7f018686edfe2abcb38776a29e8cfa1fa4b80284bd4c978f457338d7"), looks := false }, kinds := [], alts := [], laidByText := true, laidKinds := [.data], laidTests := true, laidLooks := .later }
def ScriptJapaneseCardSaid : Prop := Claim7.holds Tryd.pinned (.plain (OpenSpec.ofChange scriptJapaneseSpec)) scriptJapaneseCard

/-- THE TIED CARD OF 'namedesklaw19.ScriptSingle'. -/
def scriptSingleCard : Claim7 := { stood := { row := scriptSingleRow, standIns := [], harness := (true, "2d47e90f7f018686edfe2abcb38776a29e8cfa1fa4b80284bd4c978f457338d7"), looks := false }, kinds := [], alts := [], laidByText := true, laidKinds := [.data], laidTests := true, laidLooks := .later }
def ScriptSingleCardSaid : Prop := Claim7.holds Tryd.pinned (.plain (OpenSpec.ofChange scriptSingleSpec)) scriptSingleCard

/-- THE SECOND FORM's CARD OF 'namedesklaw19.ScriptPart'. -/
def scriptPartUptoCard : Claim7 := { stood := { row := scriptPartUptoRow, standIns := [], harness := (true, "2d47e90f7f018686edfe2abcb38776a29e8cfa1fa4b80284bd4c978f457338d7"), looks := false }, kinds := [], alts := [], laidByText := true, laidKinds := [.data], laidTests := true, laidLooks := .later }
def ScriptPartUptoCardSaid : Prop := Claim7.holds Tryd.pinned (.plain (OpenSpec.upto scriptPartSpec)) scriptPartUptoCard

/-- THE SECOND FORM's CARD OF 'namedesklaw19.ScriptJapanese'. -/
def scriptJapaneseUptoCard : Claim7 := { stood := { row := scriptJapaneseUptoRow, standIns := [], harness := (true, "2d47e90f7f018686edfe2abcb38776a29e8cfa1fa4b80284bd4c978f457338d7"), looks := false }, kinds := [], alts := [], laidByText := true, laidKinds := [.data], laidTests := true, laidLooks := .later }
def ScriptJapaneseUptoCardSaid : Prop := Claim7.holds Tryd.pinned (.plain (OpenSpec.upto scriptJapaneseSpec)) scriptJapaneseUptoCard

/-- THE SECOND FORM's CARD OF 'namedesklaw19.ScriptSingle'. -/
def scriptSingleUptoCard : Claim7 := { stood := { row := scriptSingleUptoRow, standIns := [], harness := (true, "2d47e90f7f018686edfe2abcb38776a29e8cfa1fa4b80284bd4c978f457338d7"), looks := false }, kinds := [], alts := [], laidByText := true, laidKinds := [.data], laidTests := true, laidLooks := .later }
def ScriptSingleUptoCardSaid : Prop := Claim7.holds Tryd.pinned (.plain (OpenSpec.upto scriptSingleSpec)) scriptSingleUptoCard
end Rows
end Go.Proofs.YtmgckljgkdahfaaDoor
