/-
  NARROWER THAN 'FOR EVERY INPUT', by the rows' own cells (each row's printed sentence says how): IdnaOutput: laid · IdnaCase: laid · IdnaEquivalent: laid · IdnaLabels: laid · IdnaMade: laid · IdnaErrors: laid · IdnaLong: laid · IdnaIdempotent: laid.
  DERIVED. THE GIVEN ROWS OF THIS SEAT. 8 by the template 'for every input the law returns true; each argument reads behind the call as it read before'; 0 by the template 'total and deterministic' (their statements: YtjccgagakfndpaaGreatDoorTotals.lean).
  GIVEN WITH THE SEED: the statements are not yours to turn. If you find one false, say at which input.
  Laid BY PROGRAM, IN A SANDBOX (cutbox-rows.mjs): the forced cells as the released guide's own fill.sh prints them over the translation 434786e8959e88b9… (all of the seat's roots in one cut). By AI agents, Wed Nov 11 2026. No macro, syntax, notation, axiom, sorry.
-/
import Derived.Test.YtjccgagakfndpaaGreatDoorChecked
import GoSem.Claim
import GoSem.ClaimJoined
import GoSem.ClaimMapViews
import Derived.JoinedTies
import Derived.KernelRfl
namespace Go.Proofs.YtjccgagakfndpaaGreatDoor
/- THE CELL 'sum', in the pinned program and in every row, IS THE sha256 OF THE DUMP (.gsa) THAT YtjccgagakfndpaaGreatDoorProg.lean LOADS. Nothing in Lean hashes anything: it is a label: what it is worth is what the hold of that sum in a sandbox is worth. -/
noncomputable def Tryz.pinned : Pinned := { name := "ytjccgagakfndpaagreatdoor", sum := "434786e8959e88b9d01ad2ca9b3af7aa913b58e418b442078004915a71670bbd", checked := Tryz.checked }
namespace Rows
def none {H : Type} : Left H := { results := [], args := [] }

/- WHAT THE LISTED PACKAGE-LEVEL VARIABLES READ AS WHEN THE CALL BEGINS. Each datum BY PROGRAM (the guide's laid-datum.mjs) off the statement by which the dump's own 'gosem.cut.vars' lays the variable. In a bare row this is a premise. The card (YtjccgagakfndpaaGreatDoorCards.lean) ties it to the program's text. -/
def laid_namedesk_table_blocks {H : Type} : DataW H := .slice [.agg [.lit (.int .i64 0), .lit (.int .i64 127), .lit (.int .i64 0)], .agg [.lit (.int .i64 4352), .lit (.int .i64 4370), .lit (.int .i64 0)], .agg [.lit (.int .i64 4449), .lit (.int .i64 4469), .lit (.int .i64 0)], .agg [.lit (.int .i64 4520), .lit (.int .i64 4546), .lit (.int .i64 0)], .agg [.lit (.int .i64 44032), .lit (.int .i64 55203), .lit (.int .i64 0)], .agg [.lit (.int .i64 55296), .lit (.int .i64 57343), .lit (.int .i64 0)]] []

/-- 'namedesklaw18.IdnaOutput': WHATEVER THE INPUT: true; the input reads as it did. -/
def idnaOutputSpec : ChangeSpec := { name := "idnaOutput", fn := fun _ => fun
  | [d1, d2] => { results := [.lit (.bool true)], args := [d1, d2] }
  | _ => none }
def idnaOutputRow : OpenClaim := { program := "ytjccgagakfndpaagreatdoor", sum := "434786e8959e88b9d01ad2ca9b3af7aa913b58e418b442078004915a71670bbd", func := "namedesk/namedesklaw18.IdnaOutput", spec := "idnaOutput", inPlace := ["slices.overlaps[int]", "internal/abi.NoEscape", "internal/bytealg.MakeNoZero"], unfollowed := true, recurses := true, named := ["namedesk/table.blocks"], plainKeys := false, apart := false, laid := [("namedesk/table.blocks", laid_namedesk_table_blocks)] }
def IdnaOutputSaid : Prop := idnaOutputRow.holds Tryz.pinned (OpenSpec.ofChange idnaOutputSpec)

/-- ITS FALSE NEIGHBOUR: 'it returns false'. Refute it at one input. -/
def idnaOutputWrong : ChangeSpec := { name := "idnaOutput", fn := fun _ => fun
  | [d1, d2] => { results := [.lit (.bool false)], args := [d1, d2] }
  | _ => none }
def IdnaOutputWrongFalsely : Prop := idnaOutputRow.holds Tryz.pinned (OpenSpec.ofChange idnaOutputWrong)

/-- 'namedesklaw18.IdnaCase': WHATEVER THE INPUT: true; the input reads as it did. -/
def idnaCaseSpec : ChangeSpec := { name := "idnaCase", fn := fun _ => fun
  | [d1, d2, d3] => { results := [.lit (.bool true)], args := [d1, d2, d3] }
  | _ => none }
def idnaCaseRow : OpenClaim := { program := "ytjccgagakfndpaagreatdoor", sum := "434786e8959e88b9d01ad2ca9b3af7aa913b58e418b442078004915a71670bbd", func := "namedesk/namedesklaw18.IdnaCase", spec := "idnaCase", inPlace := ["slices.overlaps[int]", "internal/abi.NoEscape", "internal/bytealg.MakeNoZero"], unfollowed := true, recurses := true, named := ["namedesk/table.blocks"], plainKeys := false, apart := false, laid := [("namedesk/table.blocks", laid_namedesk_table_blocks)] }
def IdnaCaseSaid : Prop := idnaCaseRow.holds Tryz.pinned (OpenSpec.ofChange idnaCaseSpec)

/-- ITS FALSE NEIGHBOUR: 'it returns false'. Refute it at one input. -/
def idnaCaseWrong : ChangeSpec := { name := "idnaCase", fn := fun _ => fun
  | [d1, d2, d3] => { results := [.lit (.bool false)], args := [d1, d2, d3] }
  | _ => none }
def IdnaCaseWrongFalsely : Prop := idnaCaseRow.holds Tryz.pinned (OpenSpec.ofChange idnaCaseWrong)

/-- 'namedesklaw18.IdnaEquivalent': WHATEVER THE INPUT: true; the input reads as it did. -/
def idnaEquivalentSpec : ChangeSpec := { name := "idnaEquivalent", fn := fun _ => fun
  | [d1, d2] => { results := [.lit (.bool true)], args := [d1, d2] }
  | _ => none }
def idnaEquivalentRow : OpenClaim := { program := "ytjccgagakfndpaagreatdoor", sum := "434786e8959e88b9d01ad2ca9b3af7aa913b58e418b442078004915a71670bbd", func := "namedesk/namedesklaw18.IdnaEquivalent", spec := "idnaEquivalent", inPlace := ["slices.overlaps[int]", "internal/abi.NoEscape", "internal/bytealg.MakeNoZero"], unfollowed := true, recurses := true, named := ["namedesk/table.blocks"], plainKeys := false, apart := false, laid := [("namedesk/table.blocks", laid_namedesk_table_blocks)] }
def IdnaEquivalentSaid : Prop := idnaEquivalentRow.holds Tryz.pinned (OpenSpec.ofChange idnaEquivalentSpec)

/-- ITS FALSE NEIGHBOUR: 'it returns false'. Refute it at one input. -/
def idnaEquivalentWrong : ChangeSpec := { name := "idnaEquivalent", fn := fun _ => fun
  | [d1, d2] => { results := [.lit (.bool false)], args := [d1, d2] }
  | _ => none }
def IdnaEquivalentWrongFalsely : Prop := idnaEquivalentRow.holds Tryz.pinned (OpenSpec.ofChange idnaEquivalentWrong)

/-- 'namedesklaw18.IdnaLabels': WHATEVER THE INPUT: true; the input reads as it did. -/
def idnaLabelsSpec : ChangeSpec := { name := "idnaLabels", fn := fun _ => fun
  | [d1, d2, d3] => { results := [.lit (.bool true)], args := [d1, d2, d3] }
  | _ => none }
def idnaLabelsRow : OpenClaim := { program := "ytjccgagakfndpaagreatdoor", sum := "434786e8959e88b9d01ad2ca9b3af7aa913b58e418b442078004915a71670bbd", func := "namedesk/namedesklaw18.IdnaLabels", spec := "idnaLabels", inPlace := ["slices.overlaps[int]", "internal/abi.NoEscape", "internal/bytealg.MakeNoZero"], unfollowed := true, recurses := true, named := ["namedesk/table.blocks"], plainKeys := false, apart := false, laid := [("namedesk/table.blocks", laid_namedesk_table_blocks)] }
def IdnaLabelsSaid : Prop := idnaLabelsRow.holds Tryz.pinned (OpenSpec.ofChange idnaLabelsSpec)

/-- ITS FALSE NEIGHBOUR: 'it returns false'. Refute it at one input. -/
def idnaLabelsWrong : ChangeSpec := { name := "idnaLabels", fn := fun _ => fun
  | [d1, d2, d3] => { results := [.lit (.bool false)], args := [d1, d2, d3] }
  | _ => none }
def IdnaLabelsWrongFalsely : Prop := idnaLabelsRow.holds Tryz.pinned (OpenSpec.ofChange idnaLabelsWrong)

/-- 'namedesklaw18.IdnaMade': WHATEVER THE INPUT: true; the input reads as it did. -/
def idnaMadeSpec : ChangeSpec := { name := "idnaMade", fn := fun _ => fun
  | [d1, d2, d3] => { results := [.lit (.bool true)], args := [d1, d2, d3] }
  | _ => none }
def idnaMadeRow : OpenClaim := { program := "ytjccgagakfndpaagreatdoor", sum := "434786e8959e88b9d01ad2ca9b3af7aa913b58e418b442078004915a71670bbd", func := "namedesk/namedesklaw18.IdnaMade", spec := "idnaMade", inPlace := ["slices.overlaps[int]", "internal/abi.NoEscape", "internal/bytealg.MakeNoZero"], unfollowed := true, recurses := true, named := ["namedesk/table.blocks"], plainKeys := false, apart := false, laid := [("namedesk/table.blocks", laid_namedesk_table_blocks)] }
def IdnaMadeSaid : Prop := idnaMadeRow.holds Tryz.pinned (OpenSpec.ofChange idnaMadeSpec)

/-- ITS FALSE NEIGHBOUR: 'it returns false'. Refute it at one input. -/
def idnaMadeWrong : ChangeSpec := { name := "idnaMade", fn := fun _ => fun
  | [d1, d2, d3] => { results := [.lit (.bool false)], args := [d1, d2, d3] }
  | _ => none }
def IdnaMadeWrongFalsely : Prop := idnaMadeRow.holds Tryz.pinned (OpenSpec.ofChange idnaMadeWrong)

/-- 'namedesklaw18.IdnaErrors': WHATEVER THE INPUT: true; the input reads as it did. -/
def idnaErrorsSpec : ChangeSpec := { name := "idnaErrors", fn := fun _ => fun
  | [d1, d2, d3, d4, d5, d6, d7] => { results := [.lit (.bool true)], args := [d1, d2, d3, d4, d5, d6, d7] }
  | _ => none }
def idnaErrorsRow : OpenClaim := { program := "ytjccgagakfndpaagreatdoor", sum := "434786e8959e88b9d01ad2ca9b3af7aa913b58e418b442078004915a71670bbd", func := "namedesk/namedesklaw18.IdnaErrors", spec := "idnaErrors", inPlace := ["slices.overlaps[int]", "internal/abi.NoEscape", "internal/bytealg.MakeNoZero"], unfollowed := true, recurses := true, named := ["namedesk/table.blocks"], plainKeys := false, apart := false, laid := [("namedesk/table.blocks", laid_namedesk_table_blocks)] }
def IdnaErrorsSaid : Prop := idnaErrorsRow.holds Tryz.pinned (OpenSpec.ofChange idnaErrorsSpec)

/-- ITS FALSE NEIGHBOUR: 'it returns false'. Refute it at one input. -/
def idnaErrorsWrong : ChangeSpec := { name := "idnaErrors", fn := fun _ => fun
  | [d1, d2, d3, d4, d5, d6, d7] => { results := [.lit (.bool false)], args := [d1, d2, d3, d4, d5, d6, d7] }
  | _ => none }
def IdnaErrorsWrongFalsely : Prop := idnaErrorsRow.holds Tryz.pinned (OpenSpec.ofChange idnaErrorsWrong)

/-- 'namedesklaw18.IdnaLong': WHATEVER THE INPUT: true; the input reads as it did. -/
def idnaLongSpec : ChangeSpec := { name := "idnaLong", fn := fun _ => fun
  | [d1, d2, d3, d4] => { results := [.lit (.bool true)], args := [d1, d2, d3, d4] }
  | _ => none }
def idnaLongRow : OpenClaim := { program := "ytjccgagakfndpaagreatdoor", sum := "434786e8959e88b9d01ad2ca9b3af7aa913b58e418b442078004915a71670bbd", func := "namedesk/namedesklaw18.IdnaLong", spec := "idnaLong", inPlace := ["slices.overlaps[int]", "internal/abi.NoEscape", "internal/bytealg.MakeNoZero"], unfollowed := true, recurses := true, named := ["namedesk/table.blocks"], plainKeys := false, apart := false, laid := [("namedesk/table.blocks", laid_namedesk_table_blocks)] }
def IdnaLongSaid : Prop := idnaLongRow.holds Tryz.pinned (OpenSpec.ofChange idnaLongSpec)

/-- ITS FALSE NEIGHBOUR: 'it returns false'. Refute it at one input. -/
def idnaLongWrong : ChangeSpec := { name := "idnaLong", fn := fun _ => fun
  | [d1, d2, d3, d4] => { results := [.lit (.bool false)], args := [d1, d2, d3, d4] }
  | _ => none }
def IdnaLongWrongFalsely : Prop := idnaLongRow.holds Tryz.pinned (OpenSpec.ofChange idnaLongWrong)

/-- 'namedesklaw18.IdnaIdempotent': WHATEVER THE INPUT: true; the input reads as it did. -/
def idnaIdempotentSpec : ChangeSpec := { name := "idnaIdempotent", fn := fun _ => fun
  | [d1, d2] => { results := [.lit (.bool true)], args := [d1, d2] }
  | _ => none }
def idnaIdempotentRow : OpenClaim := { program := "ytjccgagakfndpaagreatdoor", sum := "434786e8959e88b9d01ad2ca9b3af7aa913b58e418b442078004915a71670bbd", func := "namedesk/namedesklaw18.IdnaIdempotent", spec := "idnaIdempotent", inPlace := ["slices.overlaps[int]", "internal/abi.NoEscape", "internal/bytealg.MakeNoZero"], unfollowed := true, recurses := true, named := ["namedesk/table.blocks"], plainKeys := false, apart := false, laid := [("namedesk/table.blocks", laid_namedesk_table_blocks)] }
def IdnaIdempotentSaid : Prop := idnaIdempotentRow.holds Tryz.pinned (OpenSpec.ofChange idnaIdempotentSpec)

/-- ITS FALSE NEIGHBOUR: 'it returns false'. Refute it at one input. -/
def idnaIdempotentWrong : ChangeSpec := { name := "idnaIdempotent", fn := fun _ => fun
  | [d1, d2] => { results := [.lit (.bool false)], args := [d1, d2] }
  | _ => none }
def IdnaIdempotentWrongFalsely : Prop := idnaIdempotentRow.holds Tryz.pinned (OpenSpec.ofChange idnaIdempotentWrong)

/- THE SECOND FORM. 'bulk': how many values and letters a reading holds, each counted each time it is reached (what is shared counts as often as it is met; a slice's spare places count too). A statement '..UptoSaid' is the law's where the arguments, and the package variables that the reading takes, are together of bulk at most 1048576: NARROWER than '..Said'. Prove '..Said' where nothing that the law and all that it calls make is longer than what came in: it says more and counts as full. Else prove '..UptoSaid'. A law counts once. -/
mutual
def uptoBulk {H : Type} : DataW H → Nat
  | .lit (.string bytes) => bytes.length + 1
  | .lit _ => 1
  | .nil => 1
  | .ptr d => uptoBulk d + 1
  | .slice elems spare => uptoBulkAll elems + uptoBulkAll spare + 1
  | .agg parts => uptoBulkAll parts + 1
  | .iface _ d => uptoBulk d + 1
  | .map entries => uptoBulkEntries entries + 1
  | .held _ => 1
def uptoBulkAll {H : Type} : List (DataW H) → Nat
  | [] => 0
  | d :: r => uptoBulk d + uptoBulkAll r
def uptoBulkEntries {H : Type} : List (Lit × DataW H) → Nat
  | [] => 0
  | x :: r => uptoBulkEntry x + uptoBulkEntries r
def uptoBulkEntry {H : Type} : Lit × DataW H → Nat
  | (.string bytes, d) => bytes.length + uptoBulk d + 1
  | (_, d) => uptoBulk d + 1
 end
def uptoSmall : (H : Type) → List (DataW H) → Bool := fun _ ds => decide (uptoBulkAll ds ≤ 1048576)
def OpenSpec.upto (s : _root_.Go.ChangeSpec) : _root_.Go.OpenSpec := { _root_.Go.OpenSpec.ofChange s with cond := some uptoSmall }

/-- 'namedesklaw18.IdnaOutput', WHERE WHAT IT READS IS OF BULK AT MOST 1048576: true; the input reads as it did. -/
def idnaOutputUptoRow : OpenClaim := { program := "ytjccgagakfndpaagreatdoor", sum := "434786e8959e88b9d01ad2ca9b3af7aa913b58e418b442078004915a71670bbd", func := "namedesk/namedesklaw18.IdnaOutput", spec := "idnaOutput", inPlace := ["slices.overlaps[int]", "internal/abi.NoEscape", "internal/bytealg.MakeNoZero"], unfollowed := true, recurses := true, named := ["namedesk/table.blocks"], plainKeys := false, apart := false, laid := [("namedesk/table.blocks", laid_namedesk_table_blocks)], narrowed := true }
def IdnaOutputUptoSaid : Prop := idnaOutputUptoRow.holds Tryz.pinned (OpenSpec.upto idnaOutputSpec)

/-- 'namedesklaw18.IdnaCase', WHERE WHAT IT READS IS OF BULK AT MOST 1048576: true; the input reads as it did. -/
def idnaCaseUptoRow : OpenClaim := { program := "ytjccgagakfndpaagreatdoor", sum := "434786e8959e88b9d01ad2ca9b3af7aa913b58e418b442078004915a71670bbd", func := "namedesk/namedesklaw18.IdnaCase", spec := "idnaCase", inPlace := ["slices.overlaps[int]", "internal/abi.NoEscape", "internal/bytealg.MakeNoZero"], unfollowed := true, recurses := true, named := ["namedesk/table.blocks"], plainKeys := false, apart := false, laid := [("namedesk/table.blocks", laid_namedesk_table_blocks)], narrowed := true }
def IdnaCaseUptoSaid : Prop := idnaCaseUptoRow.holds Tryz.pinned (OpenSpec.upto idnaCaseSpec)

/-- 'namedesklaw18.IdnaEquivalent', WHERE WHAT IT READS IS OF BULK AT MOST 1048576: true; the input reads as it did. -/
def idnaEquivalentUptoRow : OpenClaim := { program := "ytjccgagakfndpaagreatdoor", sum := "434786e8959e88b9d01ad2ca9b3af7aa913b58e418b442078004915a71670bbd", func := "namedesk/namedesklaw18.IdnaEquivalent", spec := "idnaEquivalent", inPlace := ["slices.overlaps[int]", "internal/abi.NoEscape", "internal/bytealg.MakeNoZero"], unfollowed := true, recurses := true, named := ["namedesk/table.blocks"], plainKeys := false, apart := false, laid := [("namedesk/table.blocks", laid_namedesk_table_blocks)], narrowed := true }
def IdnaEquivalentUptoSaid : Prop := idnaEquivalentUptoRow.holds Tryz.pinned (OpenSpec.upto idnaEquivalentSpec)

/-- 'namedesklaw18.IdnaLabels', WHERE WHAT IT READS IS OF BULK AT MOST 1048576: true; the input reads as it did. -/
def idnaLabelsUptoRow : OpenClaim := { program := "ytjccgagakfndpaagreatdoor", sum := "434786e8959e88b9d01ad2ca9b3af7aa913b58e418b442078004915a71670bbd", func := "namedesk/namedesklaw18.IdnaLabels", spec := "idnaLabels", inPlace := ["slices.overlaps[int]", "internal/abi.NoEscape", "internal/bytealg.MakeNoZero"], unfollowed := true, recurses := true, named := ["namedesk/table.blocks"], plainKeys := false, apart := false, laid := [("namedesk/table.blocks", laid_namedesk_table_blocks)], narrowed := true }
def IdnaLabelsUptoSaid : Prop := idnaLabelsUptoRow.holds Tryz.pinned (OpenSpec.upto idnaLabelsSpec)

/-- 'namedesklaw18.IdnaMade', WHERE WHAT IT READS IS OF BULK AT MOST 1048576: true; the input reads as it did. -/
def idnaMadeUptoRow : OpenClaim := { program := "ytjccgagakfndpaagreatdoor", sum := "434786e8959e88b9d01ad2ca9b3af7aa913b58e418b442078004915a71670bbd", func := "namedesk/namedesklaw18.IdnaMade", spec := "idnaMade", inPlace := ["slices.overlaps[int]", "internal/abi.NoEscape", "internal/bytealg.MakeNoZero"], unfollowed := true, recurses := true, named := ["namedesk/table.blocks"], plainKeys := false, apart := false, laid := [("namedesk/table.blocks", laid_namedesk_table_blocks)], narrowed := true }
def IdnaMadeUptoSaid : Prop := idnaMadeUptoRow.holds Tryz.pinned (OpenSpec.upto idnaMadeSpec)

/-- 'namedesklaw18.IdnaErrors', WHERE WHAT IT READS IS OF BULK AT MOST 1048576: true; the input reads as it did. -/
def idnaErrorsUptoRow : OpenClaim := { program := "ytjccgagakfndpaagreatdoor", sum := "434786e8959e88b9d01ad2ca9b3af7aa913b58e418b442078004915a71670bbd", func := "namedesk/namedesklaw18.IdnaErrors", spec := "idnaErrors", inPlace := ["slices.overlaps[int]", "internal/abi.NoEscape", "internal/bytealg.MakeNoZero"], unfollowed := true, recurses := true, named := ["namedesk/table.blocks"], plainKeys := false, apart := false, laid := [("namedesk/table.blocks", laid_namedesk_table_blocks)], narrowed := true }
def IdnaErrorsUptoSaid : Prop := idnaErrorsUptoRow.holds Tryz.pinned (OpenSpec.upto idnaErrorsSpec)

/-- 'namedesklaw18.IdnaLong', WHERE WHAT IT READS IS OF BULK AT MOST 1048576: true; the input reads as it did. -/
def idnaLongUptoRow : OpenClaim := { program := "ytjccgagakfndpaagreatdoor", sum := "434786e8959e88b9d01ad2ca9b3af7aa913b58e418b442078004915a71670bbd", func := "namedesk/namedesklaw18.IdnaLong", spec := "idnaLong", inPlace := ["slices.overlaps[int]", "internal/abi.NoEscape", "internal/bytealg.MakeNoZero"], unfollowed := true, recurses := true, named := ["namedesk/table.blocks"], plainKeys := false, apart := false, laid := [("namedesk/table.blocks", laid_namedesk_table_blocks)], narrowed := true }
def IdnaLongUptoSaid : Prop := idnaLongUptoRow.holds Tryz.pinned (OpenSpec.upto idnaLongSpec)

/-- 'namedesklaw18.IdnaIdempotent', WHERE WHAT IT READS IS OF BULK AT MOST 1048576: true; the input reads as it did. -/
def idnaIdempotentUptoRow : OpenClaim := { program := "ytjccgagakfndpaagreatdoor", sum := "434786e8959e88b9d01ad2ca9b3af7aa913b58e418b442078004915a71670bbd", func := "namedesk/namedesklaw18.IdnaIdempotent", spec := "idnaIdempotent", inPlace := ["slices.overlaps[int]", "internal/abi.NoEscape", "internal/bytealg.MakeNoZero"], unfollowed := true, recurses := true, named := ["namedesk/table.blocks"], plainKeys := false, apart := false, laid := [("namedesk/table.blocks", laid_namedesk_table_blocks)], narrowed := true }
def IdnaIdempotentUptoSaid : Prop := idnaIdempotentUptoRow.holds Tryz.pinned (OpenSpec.upto idnaIdempotentSpec)

end Rows
end Go.Proofs.YtjccgagakfndpaaGreatDoor
