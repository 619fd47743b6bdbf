/-
  DERIVED. GIVEN WITH THE SEED: THE CARDS: each row of YtgfdecfcbnnemaaDoorRows.lean that lists a variable, with what it lists TIED to the program's text (the seventh form; the later family's looks); each row that meets fmt, with fmt's text TOLD by the authors' own Lean function (tested against real Go, not proved from fmt's source: count such statements apart). THE CARD IS WHAT COUNTS. Prove the row's statement (the work); the ties are given (YtgfdecfcbnnemaaDoorTie.lean); close each card by the builder's one call (the guide's Derived/Test/ToyasCard.lean, 'card_holds'). Laid BY PROGRAM, IN A SANDBOX (cutbox-door.mjs). By AI agents, Wed Nov 11 2026. No macro, syntax, notation, axiom, sorry.
-/
import Derived.Test.YtgfdecfcbnnemaaDoorRows
import GoSem.ClaimSeven
namespace Go.Proofs.YtgfdecfcbnnemaaDoor
namespace Rows

/-- THE TIED CARD OF 'namedesklaw14.JoinerVirama'. -/
def joinerViramaCard : Claim7 := { stood := { row := joinerViramaRow, standIns := [], harness := (true, "d94c30ed0c8aa3e0c0d50b761d35219abc1b6f21985ed5b1893a38d7187e7b7f"), looks := false }, kinds := [], alts := [], laidByText := true, laidKinds := [.data], laidTests := true, laidLooks := .later }
def JoinerViramaCardSaid : Prop := Claim7.holds Tryd.pinned (.plain (OpenSpec.ofChange joinerViramaSpec)) joinerViramaCard

/-- THE TIED CARD OF 'namedesklaw14.JoinerAutomaton'. -/
def joinerAutomatonCard : Claim7 := { stood := { row := joinerAutomatonRow, standIns := [], harness := (true, "d94c30ed0c8aa3e0c0d50b761d35219abc1b6f21985ed5b1893a38d7187e7b7f"), looks := false }, kinds := [], alts := [], laidByText := true, laidKinds := [.data], laidTests := true, laidLooks := .later }
def JoinerAutomatonCardSaid : Prop := Claim7.holds Tryd.pinned (.plain (OpenSpec.ofChange joinerAutomatonSpec)) joinerAutomatonCard

/-- THE TIED CARD OF 'namedesklaw14.JoinerNone'. -/
def joinerNoneCard : Claim7 := { stood := { row := joinerNoneRow, standIns := [], harness := (true, "d94c30ed0c8aa3e0c0d50b761d35219abc1b6f21985ed5b1893a38d7187e7b7f"), looks := false }, kinds := [], alts := [], laidByText := true, laidKinds := [.data], laidTests := true, laidLooks := .later }
def JoinerNoneCardSaid : Prop := Claim7.holds Tryd.pinned (.plain (OpenSpec.ofChange joinerNoneSpec)) joinerNoneCard

/-- THE TIED CARD OF 'namedesklaw15.ContextFree'. -/
def contextFreeCard : Claim7 := { stood := { row := contextFreeRow, standIns := [], harness := (true, "d94c30ed0c8aa3e0c0d50b761d35219abc1b6f21985ed5b1893a38d7187e7b7f"), looks := false }, kinds := [], alts := [], laidByText := true, laidKinds := [.data], laidTests := true, laidLooks := .later }
def ContextFreeCardSaid : Prop := Claim7.holds Tryd.pinned (.plain (OpenSpec.ofChange contextFreeSpec)) contextFreeCard

/-- THE TIED CARD OF 'namedesklaw15.ContextTogether'. -/
def contextTogetherCard : Claim7 := { stood := { row := contextTogetherRow, standIns := [], harness := (true, "d94c30ed0c8aa3e0c0d50b761d35219abc1b6f21985ed5b1893a38d7187e7b7f"), looks := false }, kinds := [], alts := [], laidByText := true, laidKinds := [.data], laidTests := true, laidLooks := .later }
def ContextTogetherCardSaid : Prop := Claim7.holds Tryd.pinned (.plain (OpenSpec.ofChange contextTogetherSpec)) contextTogetherCard

/-- THE TIED CARD OF 'namedesklaw15.ContextDigits'. -/
def contextDigitsCard : Claim7 := { stood := { row := contextDigitsRow, standIns := [], harness := (true, "d94c30ed0c8aa3e0c0d50b761d35219abc1b6f21985ed5b1893a38d7187e7b7f"), looks := false }, kinds := [], alts := [], laidByText := true, laidKinds := [.data], laidTests := true, laidLooks := .later }
def ContextDigitsCardSaid : Prop := Claim7.holds Tryd.pinned (.plain (OpenSpec.ofChange contextDigitsSpec)) contextDigitsCard

/-- THE TIED CARD OF 'namedesklaw14.JoinerMirror'. -/
def joinerMirrorCard : Claim7 := { stood := { row := joinerMirrorRow, standIns := [], harness := (true, "d94c30ed0c8aa3e0c0d50b761d35219abc1b6f21985ed5b1893a38d7187e7b7f"), looks := false }, kinds := [], alts := [], laidByText := true, laidKinds := [.data], laidTests := true, laidLooks := .later }
def JoinerMirrorCardSaid : Prop := Claim7.holds Tryd.pinned (.plain (OpenSpec.ofChange joinerMirrorSpec)) joinerMirrorCard

/-- THE SECOND FORM's CARD OF 'namedesklaw14.JoinerVirama'. -/
def joinerViramaUptoCard : Claim7 := { stood := { row := joinerViramaUptoRow, standIns := [], harness := (true, "d94c30ed0c8aa3e0c0d50b761d35219abc1b6f21985ed5b1893a38d7187e7b7f"), looks := false }, kinds := [], alts := [], laidByText := true, laidKinds := [.data], laidTests := true, laidLooks := .later }
def JoinerViramaUptoCardSaid : Prop := Claim7.holds Tryd.pinned (.plain (OpenSpec.upto joinerViramaSpec)) joinerViramaUptoCard

/-- THE SECOND FORM's CARD OF 'namedesklaw14.JoinerAutomaton'. -/
def joinerAutomatonUptoCard : Claim7 := { stood := { row := joinerAutomatonUptoRow, standIns := [], harness := (true, "d94c30ed0c8aa3e0c0d50b761d35219abc1b6f21985ed5b1893a38d7187e7b7f"), looks := false }, kinds := [], alts := [], laidByText := true, laidKinds := [.data], laidTests := true, laidLooks := .later }
def JoinerAutomatonUptoCardSaid : Prop := Claim7.holds Tryd.pinned (.plain (OpenSpec.upto joinerAutomatonSpec)) joinerAutomatonUptoCard

/-- THE SECOND FORM's CARD OF 'namedesklaw14.JoinerNone'. -/
def joinerNoneUptoCard : Claim7 := { stood := { row := joinerNoneUptoRow, standIns := [], harness := (true, "d94c30ed0c8aa3e0c0d50b761d35219abc1b6f21985ed5b1893a38d7187e7b7f"), looks := false }, kinds := [], alts := [], laidByText := true, laidKinds := [.data], laidTests := true, laidLooks := .later }
def JoinerNoneUptoCardSaid : Prop := Claim7.holds Tryd.pinned (.plain (OpenSpec.upto joinerNoneSpec)) joinerNoneUptoCard

/-- THE SECOND FORM's CARD OF 'namedesklaw15.ContextFree'. -/
def contextFreeUptoCard : Claim7 := { stood := { row := contextFreeUptoRow, standIns := [], harness := (true, "d94c30ed0c8aa3e0c0d50b761d35219abc1b6f21985ed5b1893a38d7187e7b7f"), looks := false }, kinds := [], alts := [], laidByText := true, laidKinds := [.data], laidTests := true, laidLooks := .later }
def ContextFreeUptoCardSaid : Prop := Claim7.holds Tryd.pinned (.plain (OpenSpec.upto contextFreeSpec)) contextFreeUptoCard

/-- THE SECOND FORM's CARD OF 'namedesklaw15.ContextTogether'. -/
def contextTogetherUptoCard : Claim7 := { stood := { row := contextTogetherUptoRow, standIns := [], harness := (true, "d94c30ed0c8aa3e0c0d50b761d35219abc1b6f21985ed5b1893a38d7187e7b7f"), looks := false }, kinds := [], alts := [], laidByText := true, laidKinds := [.data], laidTests := true, laidLooks := .later }
def ContextTogetherUptoCardSaid : Prop := Claim7.holds Tryd.pinned (.plain (OpenSpec.upto contextTogetherSpec)) contextTogetherUptoCard

/-- THE SECOND FORM's CARD OF 'namedesklaw15.ContextDigits'. -/
def contextDigitsUptoCard : Claim7 := { stood := { row := contextDigitsUptoRow, standIns := [], harness := (true, "d94c30ed0c8aa3e0c0d50b761d35219abc1b6f21985ed5b1893a38d7187e7b7f"), looks := false }, kinds := [], alts := [], laidByText := true, laidKinds := [.data], laidTests := true, laidLooks := .later }
def ContextDigitsUptoCardSaid : Prop := Claim7.holds Tryd.pinned (.plain (OpenSpec.upto contextDigitsSpec)) contextDigitsUptoCard

/-- THE SECOND FORM's CARD OF 'namedesklaw14.JoinerMirror'. -/
def joinerMirrorUptoCard : Claim7 := { stood := { row := joinerMirrorUptoRow, standIns := [], harness := (true, "d94c30ed0c8aa3e0c0d50b761d35219abc1b6f21985ed5b1893a38d7187e7b7f"), looks := false }, kinds := [], alts := [], laidByText := true, laidKinds := [.data], laidTests := true, laidLooks := .later }
def JoinerMirrorUptoCardSaid : Prop := Claim7.holds Tryd.pinned (.plain (OpenSpec.upto joinerMirrorSpec)) joinerMirrorUptoCard
end Rows
end Go.Proofs.YtgfdecfcbnnemaaDoor
