/-
  DERIVED. GIVEN WITH THE SEED: THE CARDS: each row of YtmgckljgkdahfaaGreatDoorRows.lean that lists a variable, with what it lists TIED to the program's text (the seventh form; the later family's looks); each row that meets fmt, with fmt's text TOLD by the authors' own Lean function (tested against real Go, not proved from fmt's source: count such statements apart). THE CARD IS WHAT COUNTS. Prove the row's statement (the work); the ties are given (YtmgckljgkdahfaaGreatDoorTie.lean); close each card by the builder's one call (the guide's Derived/Test/ToyasCard.lean, 'card_holds'). Laid BY PROGRAM, IN A SANDBOX (cutbox-door.mjs). By AI agents, Wed Nov 11 2026. No macro, syntax, notation, axiom, sorry.
-/
import Derived.Test.YtmgckljgkdahfaaGreatDoorRows
import GoSem.ClaimSeven
namespace Go.Proofs.YtmgckljgkdahfaaGreatDoor
namespace Rows

/-- THE TIED CARD OF 'namedesklaw15.ContextMade'. -/
def contextMadeCard : Claim7 := { stood := { row := contextMadeRow, standIns := [], harness := (true, "34598c64220fb668dd6065e1e4cf80135af6329ea02f3d30c30a584bdc5cd43b"), looks := false }, kinds := [], alts := [], laidByText := true, laidKinds := [.data], laidTests := true, laidLooks := .later }
def ContextMadeCardSaid : Prop := Claim7.holds Tryz.pinned (.plain (OpenSpec.ofChange contextMadeSpec)) contextMadeCard

/-- THE TIED CARD OF 'namedesklaw15.ContextErrors'. -/
def contextErrorsCard : Claim7 := { stood := { row := contextErrorsRow, standIns := [], harness := (true, "34598c64220fb668dd6065e1e4cf80135af6329ea02f3d30c30a584bdc5cd43b"), looks := false }, kinds := [], alts := [], laidByText := true, laidKinds := [.data], laidTests := true, laidLooks := .later }
def ContextErrorsCardSaid : Prop := Claim7.holds Tryz.pinned (.plain (OpenSpec.ofChange contextErrorsSpec)) contextErrorsCard

/-- THE TIED CARD OF 'namedesklaw14.JoinerMade'. -/
def joinerMadeCard : Claim7 := { stood := { row := joinerMadeRow, standIns := [], harness := (true, "34598c64220fb668dd6065e1e4cf80135af6329ea02f3d30c30a584bdc5cd43b"), looks := false }, kinds := [], alts := [], laidByText := true, laidKinds := [.data], laidTests := true, laidLooks := .later }
def JoinerMadeCardSaid : Prop := Claim7.holds Tryz.pinned (.plain (OpenSpec.ofChange joinerMadeSpec)) joinerMadeCard

/-- THE TIED CARD OF 'namedesklaw14.JoinerErrors'. -/
def joinerErrorsCard : Claim7 := { stood := { row := joinerErrorsRow, standIns := [], harness := (true, "34598c64220fb668dd6065e1e4cf80135af6329ea02f3d30c30a584bdc5cd43b"), looks := false }, kinds := [], alts := [], laidByText := true, laidKinds := [.data], laidTests := true, laidLooks := .later }
def JoinerErrorsCardSaid : Prop := Claim7.holds Tryz.pinned (.plain (OpenSpec.ofChange joinerErrorsSpec)) joinerErrorsCard

/-- THE TIED CARD OF 'namedesklaw19.ScriptOrder'. -/
def scriptOrderCard : Claim7 := { stood := { row := scriptOrderRow, standIns := [], harness := (true, "34598c64220fb668dd6065e1e4cf80135af6329ea02f3d30c30a584bdc5cd43b"), looks := false }, kinds := [], alts := [], laidByText := true, laidKinds := [.data], laidTests := true, laidLooks := .later }
def ScriptOrderCardSaid : Prop := Claim7.holds Tryz.pinned (.plain (OpenSpec.ofChange scriptOrderSpec)) scriptOrderCard

/-- THE TIED CARD OF 'namedesklaw19.ScriptMade'. -/
def scriptMadeCard : Claim7 := { stood := { row := scriptMadeRow, standIns := [], harness := (true, "34598c64220fb668dd6065e1e4cf80135af6329ea02f3d30c30a584bdc5cd43b"), looks := false }, kinds := [], alts := [], laidByText := true, laidKinds := [.data], laidTests := true, laidLooks := .later }
def ScriptMadeCardSaid : Prop := Claim7.holds Tryz.pinned (.plain (OpenSpec.ofChange scriptMadeSpec)) scriptMadeCard

/-- THE TIED CARD OF 'namedesklaw19.ScriptErrors'. -/
def scriptErrorsCard : Claim7 := { stood := { row := scriptErrorsRow, standIns := [], harness := (true, "34598c64220fb668dd6065e1e4cf80135af6329ea02f3d30c30a584bdc5cd43b"), looks := false }, kinds := [], alts := [], laidByText := true, laidKinds := [.data], laidTests := true, laidLooks := .later }
def ScriptErrorsCardSaid : Prop := Claim7.holds Tryz.pinned (.plain (OpenSpec.ofChange scriptErrorsSpec)) scriptErrorsCard

/-- THE SECOND FORM's CARD OF 'namedesklaw15.ContextMade'. -/
def contextMadeUptoCard : Claim7 := { stood := { row := contextMadeUptoRow, standIns := [], harness := (true, "34598c64220fb668dd6065e1e4cf80135af6329ea02f3d30c30a584bdc5cd43b"), looks := false }, kinds := [], alts := [], laidByText := true, laidKinds := [.data], laidTests := true, laidLooks := .later }
def ContextMadeUptoCardSaid : Prop := Claim7.holds Tryz.pinned (.plain (OpenSpec.upto contextMadeSpec)) contextMadeUptoCard

/-- THE SECOND FORM's CARD OF 'namedesklaw15.ContextErrors'. -/
def contextErrorsUptoCard : Claim7 := { stood := { row := contextErrorsUptoRow, standIns := [], harness := (true, "34598c64220fb668dd6065e1e4cf80135af6329ea02f3d30c30a584bdc5cd43b"), looks := false }, kinds := [], alts := [], laidByText := true, laidKinds := [.data], laidTests := true, laidLooks := .later }
def ContextErrorsUptoCardSaid : Prop := Claim7.holds Tryz.pinned (.plain (OpenSpec.upto contextErrorsSpec)) contextErrorsUptoCard

/-- THE SECOND FORM's CARD OF 'namedesklaw14.JoinerMade'. -/
def joinerMadeUptoCard : Claim7 := { stood := { row := joinerMadeUptoRow, standIns := [], harness := (true, "34598c64220fb668dd6065e1e4cf80135af6329ea02f3d30c30a584bdc5cd43b"), looks := false }, kinds := [], alts := [], laidByText := true, laidKinds := [.data], laidTests := true, laidLooks := .later }
def JoinerMadeUptoCardSaid : Prop := Claim7.holds Tryz.pinned (.plain (OpenSpec.upto joinerMadeSpec)) joinerMadeUptoCard

/-- THE SECOND FORM's CARD OF 'namedesklaw14.JoinerErrors'. -/
def joinerErrorsUptoCard : Claim7 := { stood := { row := joinerErrorsUptoRow, standIns := [], harness := (true, "34598c64220fb668dd6065e1e4cf80135af6329ea02f3d30c30a584bdc5cd43b"), looks := false }, kinds := [], alts := [], laidByText := true, laidKinds := [.data], laidTests := true, laidLooks := .later }
def JoinerErrorsUptoCardSaid : Prop := Claim7.holds Tryz.pinned (.plain (OpenSpec.upto joinerErrorsSpec)) joinerErrorsUptoCard

/-- THE SECOND FORM's CARD OF 'namedesklaw19.ScriptOrder'. -/
def scriptOrderUptoCard : Claim7 := { stood := { row := scriptOrderUptoRow, standIns := [], harness := (true, "34598c64220fb668dd6065e1e4cf80135af6329ea02f3d30c30a584bdc5cd43b"), looks := false }, kinds := [], alts := [], laidByText := true, laidKinds := [.data], laidTests := true, laidLooks := .later }
def ScriptOrderUptoCardSaid : Prop := Claim7.holds Tryz.pinned (.plain (OpenSpec.upto scriptOrderSpec)) scriptOrderUptoCard

/-- THE SECOND FORM's CARD OF 'namedesklaw19.ScriptMade'. -/
def scriptMadeUptoCard : Claim7 := { stood := { row := scriptMadeUptoRow, standIns := [], harness := (true, "34598c64220fb668dd6065e1e4cf80135af6329ea02f3d30c30a584bdc5cd43b"), looks := false }, kinds := [], alts := [], laidByText := true, laidKinds := [.data], laidTests := true, laidLooks := .later }
def ScriptMadeUptoCardSaid : Prop := Claim7.holds Tryz.pinned (.plain (OpenSpec.upto scriptMadeSpec)) scriptMadeUptoCard

/-- THE SECOND FORM's CARD OF 'namedesklaw19.ScriptErrors'. -/
def scriptErrorsUptoCard : Claim7 := { stood := { row := scriptErrorsUptoRow, standIns := [], harness := (true, "34598c64220fb668dd6065e1e4cf80135af6329ea02f3d30c30a584bdc5cd43b"), looks := false }, kinds := [], alts := [], laidByText := true, laidKinds := [.data], laidTests := true, laidLooks := .later }
def ScriptErrorsUptoCardSaid : Prop := Claim7.holds Tryz.pinned (.plain (OpenSpec.upto scriptErrorsSpec)) scriptErrorsUptoCard
end Rows
end Go.Proofs.YtmgckljgkdahfaaGreatDoor
