/-
  DERIVED. GIVEN WITH THE SEED: THE CARDS: each row of YtpmgophlhmcogaaGreatDoorRows.lean that lists a variable, with what it lists TIED to the program's text (the seventh form; the later family's looks); each row that meets fmt, with fmt's text TOLD by the authors' own Lean function (tested against real Go, not proved from fmt's source: count such statements apart). THE CARD IS WHAT COUNTS. Prove the row's statement (the work); the ties are given (YtpmgophlhmcogaaGreatDoorTie.lean); close each card by the builder's one call (the guide's Derived/Test/ToyasCard.lean, 'card_holds'). Laid BY PROGRAM, IN A SANDBOX (cutbox-door.mjs). By AI agents, Wed Nov 11 2026. No macro, syntax, notation, axiom, sorry.
-/
import Derived.Test.YtpmgophlhmcogaaGreatDoorRows
import GoSem.ClaimSeven
namespace Go.Proofs.YtpmgophlhmcogaaGreatDoor
namespace Rows

/-- THE TIED CARD OF 'namedesklaw34.AuditWaits'. -/
def auditWaitsCard : Claim7 := { stood := { row := auditWaitsRow, standIns := [], harness := (true, "76f5c7efd5d24d740c313e2f65d8e2c5d2ae5291c17ae5e244411c6f1cbe13c9"), looks := false }, kinds := [], alts := [], laidByText := true, laidKinds := [.data], laidTests := true, laidLooks := .later }
def AuditWaitsCardSaid : Prop := Claim7.holds Tryz.pinned (.plain (OpenSpec.ofChange auditWaitsSpec)) auditWaitsCard

/-- THE TIED CARD OF 'namedesklaw34.AuditAscending'. -/
def auditAscendingCard : Claim7 := { stood := { row := auditAscendingRow, standIns := [], harness := (true, "76f5c7efd5d24d740c313e2f65d8e2c5d2ae5291c17ae5e244411c6f1cbe13c9"), looks := false }, kinds := [], alts := [], laidByText := true, laidKinds := [.data], laidTests := true, laidLooks := .later }
def AuditAscendingCardSaid : Prop := Claim7.holds Tryz.pinned (.plain (OpenSpec.ofChange auditAscendingSpec)) auditAscendingCard

/-- THE TIED CARD OF 'namedesklaw34.AuditRaw'. -/
def auditRawCard : Claim7 := { stood := { row := auditRawRow, standIns := [], harness := (true, "76f5c7efd5d24d740c313e2f65d8e2c5d2ae5291c17ae5e244411c6f1cbe13c9"), looks := false }, kinds := [], alts := [], laidByText := true, laidKinds := [.data], laidTests := true, laidLooks := .later }
def AuditRawCardSaid : Prop := Claim7.holds Tryz.pinned (.plain (OpenSpec.ofChange auditRawSpec)) auditRawCard

/-- THE TIED CARD OF 'namedesklaw34.AuditLive'. -/
def auditLiveCard : Claim7 := { stood := { row := auditLiveRow, standIns := [], harness := (true, "76f5c7efd5d24d740c313e2f65d8e2c5d2ae5291c17ae5e244411c6f1cbe13c9"), looks := false }, kinds := [], alts := [], laidByText := true, laidKinds := [.data], laidTests := true, laidLooks := .later }
def AuditLiveCardSaid : Prop := Claim7.holds Tryz.pinned (.plain (OpenSpec.ofChange auditLiveSpec)) auditLiveCard

/-- THE SECOND FORM's CARD OF 'namedesklaw34.AuditWaits'. -/
def auditWaitsUptoCard : Claim7 := { stood := { row := auditWaitsUptoRow, standIns := [], harness := (true, "76f5c7efd5d24d740c313e2f65d8e2c5d2ae5291c17ae5e244411c6f1cbe13c9"), looks := false }, kinds := [], alts := [], laidByText := true, laidKinds := [.data], laidTests := true, laidLooks := .later }
def AuditWaitsUptoCardSaid : Prop := Claim7.holds Tryz.pinned (.plain (OpenSpec.upto auditWaitsSpec)) auditWaitsUptoCard

/-- THE SECOND FORM's CARD OF 'namedesklaw34.AuditAscending'. -/
def auditAscendingUptoCard : Claim7 := { stood := { row := auditAscendingUptoRow, standIns := [], harness := (true, "76f5c7efd5d24d740c313e2f65d8e2c5d2ae5291c17ae5e244411c6f1cbe13c9"), looks := false }, kinds := [], alts := [], laidByText := true, laidKinds := [.data], laidTests := true, laidLooks := .later }
def AuditAscendingUptoCardSaid : Prop := Claim7.holds Tryz.pinned (.plain (OpenSpec.upto auditAscendingSpec)) auditAscendingUptoCard

/-- THE SECOND FORM's CARD OF 'namedesklaw34.AuditRaw'. -/
def auditRawUptoCard : Claim7 := { stood := { row := auditRawUptoRow, standIns := [], harness := (true, "76f5c7efd5d24d740c313e2f65d8e2c5d2ae5291c17ae5e244411c6f1cbe13c9"), looks := false }, kinds := [], alts := [], laidByText := true, laidKinds := [.data], laidTests := true, laidLooks := .later }
def AuditRawUptoCardSaid : Prop := Claim7.holds Tryz.pinned (.plain (OpenSpec.upto auditRawSpec)) auditRawUptoCard

/-- THE SECOND FORM's CARD OF 'namedesklaw34.AuditLive'. -/
def auditLiveUptoCard : Claim7 := { stood := { row := auditLiveUptoRow, standIns := [], harness := (true, "76f5c7efd5d24d740c313e2f65d8e2c5d2ae5291c17ae5e244411c6f1cbe13c9"), looks := false }, kinds := [], alts := [], laidByText := true, laidKinds := [.data], laidTests := true, laidLooks := .later }
def AuditLiveUptoCardSaid : Prop := Claim7.holds Tryz.pinned (.plain (OpenSpec.upto auditLiveSpec)) auditLiveUptoCard
end Rows
end Go.Proofs.YtpmgophlhmcogaaGreatDoor
