/-
  DERIVED. GIVEN WITH THE SEED: THE CARDS: each row of YtjccgagakfndpaaGreatDoorRows.lean that lists a variable, with what it lists TIED to the program's text (the seventh form; the later family's looks); each row that meets fmt, with fmt's text TOLD by the authors' own Lean function (tested against real Go, not proved from fmt's source: count such statements apart). THE CARD IS WHAT COUNTS. Prove the row's statement (the work); the ties are given (YtjccgagakfndpaaGreatDoorTie.lean); close each card by the builder's one call (the guide's Derived/Test/ToyasCard.lean, 'card_holds'). Laid BY PROGRAM, IN A SANDBOX (cutbox-door.mjs). By AI agents, Wed Nov 11 2026. No macro, syntax, notation, axiom, sorry.
-/
import Derived.Test.YtjccgagakfndpaaGreatDoorRows
import GoSem.ClaimSeven
namespace Go.Proofs.YtjccgagakfndpaaGreatDoor
namespace Rows

/-- THE TIED CARD OF 'namedesklaw18.IdnaOutput'. -/
def idnaOutputCard : Claim7 := { stood := { row := idnaOutputRow, standIns := [], harness := (true, "0d78905c082ad027ff4fc2b664217444b568e6bb366d263fb628280e464c728a"), looks := false }, kinds := [], alts := [], laidByText := true, laidKinds := [.data], laidTests := true, laidLooks := .later }
def IdnaOutputCardSaid : Prop := Claim7.holds Tryz.pinned (.plain (OpenSpec.ofChange idnaOutputSpec)) idnaOutputCard

/-- THE TIED CARD OF 'namedesklaw18.IdnaCase'. -/
def idnaCaseCard : Claim7 := { stood := { row := idnaCaseRow, standIns := [], harness := (true, "0d78905c082ad027ff4fc2b664217444b568e6bb366d263fb628280e464c728a"), looks := false }, kinds := [], alts := [], laidByText := true, laidKinds := [.data], laidTests := true, laidLooks := .later }
def IdnaCaseCardSaid : Prop := Claim7.holds Tryz.pinned (.plain (OpenSpec.ofChange idnaCaseSpec)) idnaCaseCard

/-- THE TIED CARD OF 'namedesklaw18.IdnaEquivalent'. -/
def idnaEquivalentCard : Claim7 := { stood := { row := idnaEquivalentRow, standIns := [], harness := (true, "0d78905c082ad027ff4fc2b664217444b568e6bb366d263fb628280e464c728a"), looks := false }, kinds := [], alts := [], laidByText := true, laidKinds := [.data], laidTests := true, laidLooks := .later }
def IdnaEquivalentCardSaid : Prop := Claim7.holds Tryz.pinned (.plain (OpenSpec.ofChange idnaEquivalentSpec)) idnaEquivalentCard

/-- THE TIED CARD OF 'namedesklaw18.IdnaLabels'. -/
def idnaLabelsCard : Claim7 := { stood := { row := idnaLabelsRow, standIns := [], harness := (true, "0d78905c082ad027ff4fc2b664217444b568e6bb366d263fb628280e464c728a"), looks := false }, kinds := [], alts := [], laidByText := true, laidKinds := [.data], laidTests := true, laidLooks := .later }
def IdnaLabelsCardSaid : Prop := Claim7.holds Tryz.pinned (.plain (OpenSpec.ofChange idnaLabelsSpec)) idnaLabelsCard

/-- THE TIED CARD OF 'namedesklaw18.IdnaMade'. -/
def idnaMadeCard : Claim7 := { stood := { row := idnaMadeRow, standIns := [], harness := (true, "0d78905c082ad027ff4fc2b664217444b568e6bb366d263fb628280e464c728a"), looks := false }, kinds := [], alts := [], laidByText := true, laidKinds := [.data], laidTests := true, laidLooks := .later }
def IdnaMadeCardSaid : Prop := Claim7.holds Tryz.pinned (.plain (OpenSpec.ofChange idnaMadeSpec)) idnaMadeCard

/-- THE TIED CARD OF 'namedesklaw18.IdnaErrors'. -/
def idnaErrorsCard : Claim7 := { stood := { row := idnaErrorsRow, standIns := [], harness := (true, "0d78905c082ad027ff4fc2b664217444b568e6bb366d263fb628280e464c728a"), looks := false }, kinds := [], alts := [], laidByText := true, laidKinds := [.data], laidTests := true, laidLooks := .later }
def IdnaErrorsCardSaid : Prop := Claim7.holds Tryz.pinned (.plain (OpenSpec.ofChange idnaErrorsSpec)) idnaErrorsCard

/-- THE TIED CARD OF 'namedesklaw18.IdnaLong'. -/
def idnaLongCard : Claim7 := { stood := { row := idnaLongRow, standIns := [], harness := (true, "0d78905c082ad027ff4fc2b664217444b568e6bb366d263fb628280e464c728a"), looks := false }, kinds := [], alts := [], laidByText := true, laidKinds := [.data], laidTests := true, laidLooks := .later }
def IdnaLongCardSaid : Prop := Claim7.holds Tryz.pinned (.plain (OpenSpec.ofChange idnaLongSpec)) idnaLongCard

/-- THE TIED CARD OF 'namedesklaw18.IdnaIdempotent'. -/
def idnaIdempotentCard : Claim7 := { stood := { row := idnaIdempotentRow, standIns := [], harness := (true, "0d78905c082ad027ff4fc2b664217444b568e6bb366d263fb628280e464c728a"), looks := false }, kinds := [], alts := [], laidByText := true, laidKinds := [.data], laidTests := true, laidLooks := .later }
def IdnaIdempotentCardSaid : Prop := Claim7.holds Tryz.pinned (.plain (OpenSpec.ofChange idnaIdempotentSpec)) idnaIdempotentCard

/-- THE SECOND FORM's CARD OF 'namedesklaw18.IdnaOutput'. -/
def idnaOutputUptoCard : Claim7 := { stood := { row := idnaOutputUptoRow, standIns := [], harness := (true, "0d78905c082ad027ff4fc2b664217444b568e6bb366d263fb628280e464c728a"), looks := false }, kinds := [], alts := [], laidByText := true, laidKinds := [.data], laidTests := true, laidLooks := .later }
def IdnaOutputUptoCardSaid : Prop := Claim7.holds Tryz.pinned (.plain (OpenSpec.upto idnaOutputSpec)) idnaOutputUptoCard

/-- THE SECOND FORM's CARD OF 'namedesklaw18.IdnaCase'. -/
def idnaCaseUptoCard : Claim7 := { stood := { row := idnaCaseUptoRow, standIns := [], harness := (true, "0d78905c082ad027ff4fc2b664217444b568e6bb366d263fb628280e464c728a"), looks := false }, kinds := [], alts := [], laidByText := true, laidKinds := [.data], laidTests := true, laidLooks := .later }
def IdnaCaseUptoCardSaid : Prop := Claim7.holds Tryz.pinned (.plain (OpenSpec.upto idnaCaseSpec)) idnaCaseUptoCard

/-- THE SECOND FORM's CARD OF 'namedesklaw18.IdnaEquivalent'. -/
def idnaEquivalentUptoCard : Claim7 := { stood := { row := idnaEquivalentUptoRow, standIns := [], harness := (true, "0d78905c082ad027ff4fc2b664217444b568e6bb366d263fb628280e464c728a"), looks := false }, kinds := [], alts := [], laidByText := true, laidKinds := [.data], laidTests := true, laidLooks := .later }
def IdnaEquivalentUptoCardSaid : Prop := Claim7.holds Tryz.pinned (.plain (OpenSpec.upto idnaEquivalentSpec)) idnaEquivalentUptoCard

/-- THE SECOND FORM's CARD OF 'namedesklaw18.IdnaLabels'. -/
def idnaLabelsUptoCard : Claim7 := { stood := { row := idnaLabelsUptoRow, standIns := [], harness := (true, "0d78905c082ad027ff4fc2b664217444b568e6bb366d263fb628280e464c728a"), looks := false }, kinds := [], alts := [], laidByText := true, laidKinds := [.data], laidTests := true, laidLooks := .later }
def IdnaLabelsUptoCardSaid : Prop := Claim7.holds Tryz.pinned (.plain (OpenSpec.upto idnaLabelsSpec)) idnaLabelsUptoCard

/-- THE SECOND FORM's CARD OF 'namedesklaw18.IdnaMade'. -/
def idnaMadeUptoCard : Claim7 := { stood := { row := idnaMadeUptoRow, standIns := [], harness := (true, "0d78905c082ad027ff4fc2b664217444b568e6bb366d263fb628280e464c728a"), looks := false }, kinds := [], alts := [], laidByText := true, laidKinds := [.data], laidTests := true, laidLooks := .later }
def IdnaMadeUptoCardSaid : Prop := Claim7.holds Tryz.pinned (.plain (OpenSpec.upto idnaMadeSpec)) idnaMadeUptoCard

/-- THE SECOND FORM's CARD OF 'namedesklaw18.IdnaErrors'. -/
def idnaErrorsUptoCard : Claim7 := { stood := { row := idnaErrorsUptoRow, standIns := [], harness := (true, "0d78905c082ad027ff4fc2b664217444b568e6bb366d263fb628280e464c728a"), looks := false }, kinds := [], alts := [], laidByText := true, laidKinds := [.data], laidTests := true, laidLooks := .later }
def IdnaErrorsUptoCardSaid : Prop := Claim7.holds Tryz.pinned (.plain (OpenSpec.upto idnaErrorsSpec)) idnaErrorsUptoCard

/-- THE SECOND FORM's CARD OF 'namedesklaw18.IdnaLong'. -/
def idnaLongUptoCard : Claim7 := { stood := { row := idnaLongUptoRow, standIns := [], harness := (true, "0d78905c082ad027ff4fc2b664217444b568e6bb366d263fb628280e464c728a"), looks := false }, kinds := [], alts := [], laidByText := true, laidKinds := [.data], laidTests := true, laidLooks := .later }
def IdnaLongUptoCardSaid : Prop := Claim7.holds Tryz.pinned (.plain (OpenSpec.upto idnaLongSpec)) idnaLongUptoCard

/-- THE SECOND FORM's CARD OF 'namedesklaw18.IdnaIdempotent'. -/
def idnaIdempotentUptoCard : Claim7 := { stood := { row := idnaIdempotentUptoRow, standIns := [], harness := (true, "0d78905c082ad027ff4fc2b664217444b568e6bb366d263fb628280e464c728a"), looks := false }, kinds := [], alts := [], laidByText := true, laidKinds := [.data], laidTests := true, laidLooks := .later }
def IdnaIdempotentUptoCardSaid : Prop := Claim7.holds Tryz.pinned (.plain (OpenSpec.upto idnaIdempotentSpec)) idnaIdempotentUptoCard
end Rows
end Go.Proofs.YtjccgagakfndpaaGreatDoor
