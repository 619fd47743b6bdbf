/-
  DERIVED. GIVEN WITH THE SEED: THE CARDS: each row of YtlmkgaoakcjlnaaGreatDoorRows.lean that lists a variable, with what it lists TIED to the program's text (the seventh form; the later family's looks); each row that meets fmt, with fmt's text TOLD by the authors' own Lean function (tested against real Go, not proved from fmt's source: count such statements apart). THE CARD IS WHAT COUNTS. Prove the row's statement (the work); the ties are given (YtlmkgaoakcjlnaaGreatDoorTie.lean); close each card by the builder's one call (the guide's Derived/Test/ToyasCard.lean, 'card_holds'). Laid BY PROGRAM, IN A SANDBOX (cutbox-door.mjs). By AI agents, Wed Nov 11 2026. No macro, syntax, notation, axiom, sorry.
-/
import Derived.Test.YtlmkgaoakcjlnaaGreatDoorRows
import GoSem.ClaimSeven
namespace Go.Proofs.YtlmkgaoakcjlnaaGreatDoor
namespace Rows

/-- THE TIED CARD OF 'namedesklaw22.BundleCanon'. -/
def bundleCanonCard : Claim7 := { stood := { row := bundleCanonRow, standIns := [], harness := (true, "036e0a89482f1bd140b476c0704683161ae267a145122a35f6bf964cc2f6714a"), looks := false }, kinds := [], alts := [], laidByText := true, laidKinds := [.data], laidTests := true, laidLooks := .later }
def BundleCanonCardSaid : Prop := Claim7.holds Tryz.pinned (.plain (OpenSpec.ofChange bundleCanonSpec)) bundleCanonCard

/-- THE TIED CARD OF 'namedesklaw22.BundleMake'. -/
def bundleMakeCard : Claim7 := { stood := { row := bundleMakeRow, standIns := [], harness := (true, "036e0a89482f1bd140b476c0704683161ae267a145122a35f6bf964cc2f6714a"), looks := false }, kinds := [], alts := [], laidByText := true, laidKinds := [.data], laidTests := true, laidLooks := .later }
def BundleMakeCardSaid : Prop := Claim7.holds Tryz.pinned (.plain (OpenSpec.ofChange bundleMakeSpec)) bundleMakeCard

/-- THE TIED CARD OF 'namedesklaw22.BundleAgain'. -/
def bundleAgainCard : Claim7 := { stood := { row := bundleAgainRow, standIns := [], harness := (true, "036e0a89482f1bd140b476c0704683161ae267a145122a35f6bf964cc2f6714a"), looks := false }, kinds := [], alts := [], laidByText := true, laidKinds := [.data], laidTests := true, laidLooks := .later }
def BundleAgainCardSaid : Prop := Claim7.holds Tryz.pinned (.plain (OpenSpec.ofChange bundleAgainSpec)) bundleAgainCard

/-- THE TIED CARD OF 'namedesklaw22.BundleOrder'. -/
def bundleOrderCard : Claim7 := { stood := { row := bundleOrderRow, standIns := [], harness := (true, "036e0a89482f1bd140b476c0704683161ae267a145122a35f6bf964cc2f6714a"), looks := false }, kinds := [], alts := [], laidByText := true, laidKinds := [.data], laidTests := true, laidLooks := .later }
def BundleOrderCardSaid : Prop := Claim7.holds Tryz.pinned (.plain (OpenSpec.ofChange bundleOrderSpec)) bundleOrderCard

/-- THE TIED CARD OF 'namedesklaw22.BundleTwins'. -/
def bundleTwinsCard : Claim7 := { stood := { row := bundleTwinsRow, standIns := [], harness := (true, "036e0a89482f1bd140b476c0704683161ae267a145122a35f6bf964cc2f6714a"), looks := false }, kinds := [], alts := [], laidByText := true, laidKinds := [.data], laidTests := true, laidLooks := .later }
def BundleTwinsCardSaid : Prop := Claim7.holds Tryz.pinned (.plain (OpenSpec.ofChange bundleTwinsSpec)) bundleTwinsCard

/-- THE TIED CARD OF 'namedesklaw22.BundleFind'. -/
def bundleFindCard : Claim7 := { stood := { row := bundleFindRow, standIns := [], harness := (true, "036e0a89482f1bd140b476c0704683161ae267a145122a35f6bf964cc2f6714a"), looks := false }, kinds := [], alts := [], laidByText := true, laidKinds := [.data], laidTests := true, laidLooks := .later }
def BundleFindCardSaid : Prop := Claim7.holds Tryz.pinned (.plain (OpenSpec.ofChange bundleFindSpec)) bundleFindCard

/-- THE TIED CARD OF 'namedesklaw34.AuditWaits'. -/
def auditWaitsCard : Claim7 := { stood := { row := auditWaitsRow, standIns := [], harness := (true, "036e0a89482f1bd140b476c0704683161ae267a145122a35f6bf964cc2f6714a"), looks := false }, kinds := [], alts := [], laidByText := true, laidKinds := [.data], laidTests := true, laidLooks := .later }
def AuditWaitsCardSaid : Prop := Claim7.holds Tryz.pinned (.plain (OpenSpec.ofChange auditWaitsSpec)) auditWaitsCard

/-- THE TIED CARD OF 'namedesklaw34.AuditAscending'. -/
def auditAscendingCard : Claim7 := { stood := { row := auditAscendingRow, standIns := [], harness := (true, "036e0a89482f1bd140b476c0704683161ae267a145122a35f6bf964cc2f6714a"), looks := false }, kinds := [], alts := [], laidByText := true, laidKinds := [.data], laidTests := true, laidLooks := .later }
def AuditAscendingCardSaid : Prop := Claim7.holds Tryz.pinned (.plain (OpenSpec.ofChange auditAscendingSpec)) auditAscendingCard

/-- THE SECOND FORM's CARD OF 'namedesklaw22.BundleCanon'. -/
def bundleCanonUptoCard : Claim7 := { stood := { row := bundleCanonUptoRow, standIns := [], harness := (true, "036e0a89482f1bd140b476c0704683161ae267a145122a35f6bf964cc2f6714a"), looks := false }, kinds := [], alts := [], laidByText := true, laidKinds := [.data], laidTests := true, laidLooks := .later }
def BundleCanonUptoCardSaid : Prop := Claim7.holds Tryz.pinned (.plain (OpenSpec.upto bundleCanonSpec)) bundleCanonUptoCard

/-- THE SECOND FORM's CARD OF 'namedesklaw22.BundleMake'. -/
def bundleMakeUptoCard : Claim7 := { stood := { row := bundleMakeUptoRow, standIns := [], harness := (true, "036e0a89482f1bd140b476c0704683161ae267a145122a35f6bf964cc2f6714a"), looks := false }, kinds := [], alts := [], laidByText := true, laidKinds := [.data], laidTests := true, laidLooks := .later }
def BundleMakeUptoCardSaid : Prop := Claim7.holds Tryz.pinned (.plain (OpenSpec.upto bundleMakeSpec)) bundleMakeUptoCard

/-- THE SECOND FORM's CARD OF 'namedesklaw22.BundleAgain'. -/
def bundleAgainUptoCard : Claim7 := { stood := { row := bundleAgainUptoRow, standIns := [], harness := (true, "036e0a89482f1bd140b476c0704683161ae267a145122a35f6bf964cc2f6714a"), looks := false }, kinds := [], alts := [], laidByText := true, laidKinds := [.data], laidTests := true, laidLooks := .later }
def BundleAgainUptoCardSaid : Prop := Claim7.holds Tryz.pinned (.plain (OpenSpec.upto bundleAgainSpec)) bundleAgainUptoCard

/-- THE SECOND FORM's CARD OF 'namedesklaw22.BundleOrder'. -/
def bundleOrderUptoCard : Claim7 := { stood := { row := bundleOrderUptoRow, standIns := [], harness := (true, "036e0a89482f1bd140b476c0704683161ae267a145122a35f6bf964cc2f6714a"), looks := false }, kinds := [], alts := [], laidByText := true, laidKinds := [.data], laidTests := true, laidLooks := .later }
def BundleOrderUptoCardSaid : Prop := Claim7.holds Tryz.pinned (.plain (OpenSpec.upto bundleOrderSpec)) bundleOrderUptoCard

/-- THE SECOND FORM's CARD OF 'namedesklaw22.BundleTwins'. -/
def bundleTwinsUptoCard : Claim7 := { stood := { row := bundleTwinsUptoRow, standIns := [], harness := (true, "036e0a89482f1bd140b476c0704683161ae267a145122a35f6bf964cc2f6714a"), looks := false }, kinds := [], alts := [], laidByText := true, laidKinds := [.data], laidTests := true, laidLooks := .later }
def BundleTwinsUptoCardSaid : Prop := Claim7.holds Tryz.pinned (.plain (OpenSpec.upto bundleTwinsSpec)) bundleTwinsUptoCard

/-- THE SECOND FORM's CARD OF 'namedesklaw22.BundleFind'. -/
def bundleFindUptoCard : Claim7 := { stood := { row := bundleFindUptoRow, standIns := [], harness := (true, "036e0a89482f1bd140b476c0704683161ae267a145122a35f6bf964cc2f6714a"), looks := false }, kinds := [], alts := [], laidByText := true, laidKinds := [.data], laidTests := true, laidLooks := .later }
def BundleFindUptoCardSaid : Prop := Claim7.holds Tryz.pinned (.plain (OpenSpec.upto bundleFindSpec)) bundleFindUptoCard

/-- THE SECOND FORM's CARD OF 'namedesklaw34.AuditWaits'. -/
def auditWaitsUptoCard : Claim7 := { stood := { row := auditWaitsUptoRow, standIns := [], harness := (true, "036e0a89482f1bd140b476c0704683161ae267a145122a35f6bf964cc2f6714a"), looks := false }, kinds := [], alts := [], laidByText := true, laidKinds := [.data], laidTests := true, laidLooks := .later }
def AuditWaitsUptoCardSaid : Prop := Claim7.holds Tryz.pinned (.plain (OpenSpec.upto auditWaitsSpec)) auditWaitsUptoCard

/-- THE SECOND FORM's CARD OF 'namedesklaw34.AuditAscending'. -/
def auditAscendingUptoCard : Claim7 := { stood := { row := auditAscendingUptoRow, standIns := [], harness := (true, "036e0a89482f1bd140b476c0704683161ae267a145122a35f6bf964cc2f6714a"), looks := false }, kinds := [], alts := [], laidByText := true, laidKinds := [.data], laidTests := true, laidLooks := .later }
def AuditAscendingUptoCardSaid : Prop := Claim7.holds Tryz.pinned (.plain (OpenSpec.upto auditAscendingSpec)) auditAscendingUptoCard
end Rows
end Go.Proofs.YtlmkgaoakcjlnaaGreatDoor
