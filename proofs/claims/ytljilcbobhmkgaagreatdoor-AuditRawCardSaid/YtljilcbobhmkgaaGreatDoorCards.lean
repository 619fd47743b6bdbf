/-
  DERIVED. GIVEN WITH THE SEED: THE CARDS: each row of YtljilcbobhmkgaaGreatDoorRows.lean that lists a variable, with what it lists TIED to the program's text (the seventh form; the later family's looks); each row that meets fmt, with fmt's text TOLD by the authors' own Lean function (tested against real Go, not proved from fmt's source: count such statements apart). THE CARD IS WHAT COUNTS. Prove the row's statement (the work); the ties are given (YtljilcbobhmkgaaGreatDoorTie.lean); close each card by the builder's one call (the guide's Derived/Test/ToyasCard.lean, 'card_holds'). Laid BY PROGRAM, IN A SANDBOX (cutbox-door.mjs). By AI agents, Wed Nov 11 2026. No macro, syntax, notation, axiom, sorry.
-/
import Derived.Test.YtljilcbobhmkgaaGreatDoorRows
import GoSem.ClaimSeven
namespace Go.Proofs.YtljilcbobhmkgaaGreatDoor
namespace Rows

/-- THE TIED CARD OF 'namedesklaw34.AuditCheck'. -/
def auditCheckCard : Claim7 := { stood := { row := auditCheckRow, standIns := [], harness := (true, "9c41f3a5231f89b12ea9cfec58e782c32d2c0589a13d16b8afdfe30ee508ef70"), looks := false }, kinds := [], alts := [], laidByText := true, laidKinds := [.data], laidTests := true, laidLooks := .later }
def AuditCheckCardSaid : Prop := Claim7.holds Tryz.pinned (.plain (OpenSpec.ofChange auditCheckSpec)) auditCheckCard

/-- THE TIED CARD OF 'namedesklaw34.AuditRaw'. -/
def auditRawCard : Claim7 := { stood := { row := auditRawRow, standIns := [], harness := (true, "9c41f3a5231f89b12ea9cfec58e782c32d2c0589a13d16b8afdfe30ee508ef70"), looks := false }, kinds := [], alts := [], laidByText := true, laidKinds := [.data], laidTests := true, laidLooks := .later }
def AuditRawCardSaid : Prop := Claim7.holds Tryz.pinned (.plain (OpenSpec.ofChange auditRawSpec)) auditRawCard

/-- THE TIED CARD OF 'namedesklaw34.AuditLive'. -/
def auditLiveCard : Claim7 := { stood := { row := auditLiveRow, standIns := [], harness := (true, "9c41f3a5231f89b12ea9cfec58e782c32d2c0589a13d16b8afdfe30ee508ef70"), looks := false }, kinds := [], alts := [], laidByText := true, laidKinds := [.data], laidTests := true, laidLooks := .later }
def AuditLiveCardSaid : Prop := Claim7.holds Tryz.pinned (.plain (OpenSpec.ofChange auditLiveSpec)) auditLiveCard

/-- THE SECOND FORM's CARD OF 'namedesklaw34.AuditCheck'. -/
def auditCheckUptoCard : Claim7 := { stood := { row := auditCheckUptoRow, standIns := [], harness := (true, "9c41f3a5231f89b12ea9cfec58e782c32d2c0589a13d16b8afdfe30ee508ef70"), looks := false }, kinds := [], alts := [], laidByText := true, laidKinds := [.data], laidTests := true, laidLooks := .later }
def AuditCheckUptoCardSaid : Prop := Claim7.holds Tryz.pinned (.plain (OpenSpec.upto auditCheckSpec)) auditCheckUptoCard

/-- THE SECOND FORM's CARD OF 'namedesklaw34.AuditRaw'. -/
def auditRawUptoCard : Claim7 := { stood := { row := auditRawUptoRow, standIns := [], harness := (true, "9c41f3a5231f89b12ea9cfec58e782c32d2c0589a13d16b8afdfe30ee508ef70"), looks := false }, kinds := [], alts := [], laidByText := true, laidKinds := [.data], laidTests := true, laidLooks := .later }
def AuditRawUptoCardSaid : Prop := Claim7.holds Tryz.pinned (.plain (OpenSpec.upto auditRawSpec)) auditRawUptoCard

/-- THE SECOND FORM's CARD OF 'namedesklaw34.AuditLive'. -/
def auditLiveUptoCard : Claim7 := { stood := { row := auditLiveUptoRow, standIns := [], harness := (true, "9c41f3a5231f89b12ea9cfec58e782c32d2c0589a13d16b8afdfe30ee508ef70"), looks := false }, kinds := [], alts := [], laidByText := true, laidKinds := [.data], laidTests := true, laidLooks := .later }
def AuditLiveUptoCardSaid : Prop := Claim7.holds Tryz.pinned (.plain (OpenSpec.upto auditLiveSpec)) auditLiveUptoCard
end Rows
end Go.Proofs.YtljilcbobhmkgaaGreatDoor
