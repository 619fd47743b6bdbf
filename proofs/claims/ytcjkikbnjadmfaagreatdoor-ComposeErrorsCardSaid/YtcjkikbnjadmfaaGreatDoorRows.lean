/-
  NARROWER THAN 'FOR EVERY INPUT', by the rows' own cells (each row's printed sentence says how): ComposeMade: laid · ComposeTwice: laid · ComposeEquivalent: laid · ComposeQuick: laid · ComposeShorter: laid · ComposePairs: laid · ComposeErrors: laid.
  DERIVED. THE GIVEN ROWS OF THIS SEAT. 7 by the template 'for every input the law returns true; each argument reads behind the call as it read before'; 0 by the template 'total and deterministic' (their statements: YtcjkikbnjadmfaaGreatDoorTotals.lean).
  GIVEN WITH THE SEED: the statements are not yours to turn. If you find one false, say at which input.
  Laid BY PROGRAM, IN A SANDBOX (cutbox-rows.mjs): the forced cells as the released guide's own fill.sh prints them over the translation c239ae134541c155… (all of the seat's roots in one cut). By AI agents, Wed Nov 11 2026. No macro, syntax, notation, axiom, sorry.
-/
import Derived.Test.YtcjkikbnjadmfaaGreatDoorChecked
import GoSem.Claim
import GoSem.ClaimJoined
import GoSem.ClaimMapViews
import Derived.JoinedTies
import Derived.KernelRfl
namespace Go.Proofs.YtcjkikbnjadmfaaGreatDoor
/- THE CELL 'sum', in the pinned program and in every row, IS THE sha256 OF THE DUMP (.gsa) THAT YtcjkikbnjadmfaaGreatDoorProg.lean LOADS. Nothing in Lean hashes anything: it is a label: what it is worth is what the hold of that sum in a sandbox is worth. -/
noncomputable def Tryz.pinned : Pinned := { name := "ytcjkikbnjadmfaagreatdoor", sum := "c239ae134541c155849b9e3323d59bdee40dbebe59ae076361184fe269f2ebe1", checked := Tryz.checked }
namespace Rows
def none {H : Type} : Left H := { results := [], args := [] }

/- WHAT THE LISTED PACKAGE-LEVEL VARIABLES READ AS WHEN THE CALL BEGINS. Each datum BY PROGRAM (the guide's laid-datum.mjs) off the statement by which the dump's own 'gosem.cut.vars' lays the variable. In a bare row this is a premise. The card (YtcjkikbnjadmfaaGreatDoorCards.lean) ties it to the program's text. -/
def laid_namedesk_table_blocks {H : Type} : DataW H := .slice [.agg [.lit (.int .i64 0), .lit (.int .i64 127), .lit (.int .i64 0)], .agg [.lit (.int .i64 4352), .lit (.int .i64 4370), .lit (.int .i64 0)], .agg [.lit (.int .i64 4449), .lit (.int .i64 4469), .lit (.int .i64 0)], .agg [.lit (.int .i64 4520), .lit (.int .i64 4546), .lit (.int .i64 0)], .agg [.lit (.int .i64 44032), .lit (.int .i64 55203), .lit (.int .i64 0)], .agg [.lit (.int .i64 55296), .lit (.int .i64 57343), .lit (.int .i64 0)]] []

/-- 'namedesklaw8.ComposeMade': WHATEVER THE INPUT: true; the input reads as it did. -/
def composeMadeSpec : ChangeSpec := { name := "composeMade", fn := fun _ => fun
  | [d1, d2, d3] => { results := [.lit (.bool true)], args := [d1, d2, d3] }
  | _ => none }
def composeMadeRow : OpenClaim := { program := "ytcjkikbnjadmfaagreatdoor", sum := "c239ae134541c155849b9e3323d59bdee40dbebe59ae076361184fe269f2ebe1", func := "namedesk/namedesklaw8.ComposeMade", spec := "composeMade", unfollowed := true, recurses := true, named := ["namedesk/table.blocks"], plainKeys := false, apart := false, laid := [("namedesk/table.blocks", laid_namedesk_table_blocks)] }
def ComposeMadeSaid : Prop := composeMadeRow.holds Tryz.pinned (OpenSpec.ofChange composeMadeSpec)

/-- ITS FALSE NEIGHBOUR: 'it returns false'. Refute it at one input. -/
def composeMadeWrong : ChangeSpec := { name := "composeMade", fn := fun _ => fun
  | [d1, d2, d3] => { results := [.lit (.bool false)], args := [d1, d2, d3] }
  | _ => none }
def ComposeMadeWrongFalsely : Prop := composeMadeRow.holds Tryz.pinned (OpenSpec.ofChange composeMadeWrong)

/-- 'namedesklaw8.ComposeTwice': WHATEVER THE INPUT: true; the input reads as it did. -/
def composeTwiceSpec : ChangeSpec := { name := "composeTwice", fn := fun _ => fun
  | [d1, d2] => { results := [.lit (.bool true)], args := [d1, d2] }
  | _ => none }
def composeTwiceRow : OpenClaim := { program := "ytcjkikbnjadmfaagreatdoor", sum := "c239ae134541c155849b9e3323d59bdee40dbebe59ae076361184fe269f2ebe1", func := "namedesk/namedesklaw8.ComposeTwice", spec := "composeTwice", unfollowed := true, recurses := true, named := ["namedesk/table.blocks"], plainKeys := false, apart := false, laid := [("namedesk/table.blocks", laid_namedesk_table_blocks)] }
def ComposeTwiceSaid : Prop := composeTwiceRow.holds Tryz.pinned (OpenSpec.ofChange composeTwiceSpec)

/-- ITS FALSE NEIGHBOUR: 'it returns false'. Refute it at one input. -/
def composeTwiceWrong : ChangeSpec := { name := "composeTwice", fn := fun _ => fun
  | [d1, d2] => { results := [.lit (.bool false)], args := [d1, d2] }
  | _ => none }
def ComposeTwiceWrongFalsely : Prop := composeTwiceRow.holds Tryz.pinned (OpenSpec.ofChange composeTwiceWrong)

/-- 'namedesklaw8.ComposeEquivalent': WHATEVER THE INPUT: true; the input reads as it did. -/
def composeEquivalentSpec : ChangeSpec := { name := "composeEquivalent", fn := fun _ => fun
  | [d1, d2, d3, d4] => { results := [.lit (.bool true)], args := [d1, d2, d3, d4] }
  | _ => none }
def composeEquivalentRow : OpenClaim := { program := "ytcjkikbnjadmfaagreatdoor", sum := "c239ae134541c155849b9e3323d59bdee40dbebe59ae076361184fe269f2ebe1", func := "namedesk/namedesklaw8.ComposeEquivalent", spec := "composeEquivalent", unfollowed := true, recurses := true, named := ["namedesk/table.blocks"], plainKeys := false, apart := false, laid := [("namedesk/table.blocks", laid_namedesk_table_blocks)] }
def ComposeEquivalentSaid : Prop := composeEquivalentRow.holds Tryz.pinned (OpenSpec.ofChange composeEquivalentSpec)

/-- ITS FALSE NEIGHBOUR: 'it returns false'. Refute it at one input. -/
def composeEquivalentWrong : ChangeSpec := { name := "composeEquivalent", fn := fun _ => fun
  | [d1, d2, d3, d4] => { results := [.lit (.bool false)], args := [d1, d2, d3, d4] }
  | _ => none }
def ComposeEquivalentWrongFalsely : Prop := composeEquivalentRow.holds Tryz.pinned (OpenSpec.ofChange composeEquivalentWrong)

/-- 'namedesklaw8.ComposeQuick': WHATEVER THE INPUT: true; the input reads as it did. -/
def composeQuickSpec : ChangeSpec := { name := "composeQuick", fn := fun _ => fun
  | [d1, d2] => { results := [.lit (.bool true)], args := [d1, d2] }
  | _ => none }
def composeQuickRow : OpenClaim := { program := "ytcjkikbnjadmfaagreatdoor", sum := "c239ae134541c155849b9e3323d59bdee40dbebe59ae076361184fe269f2ebe1", func := "namedesk/namedesklaw8.ComposeQuick", spec := "composeQuick", unfollowed := true, recurses := true, named := ["namedesk/table.blocks"], plainKeys := false, apart := false, laid := [("namedesk/table.blocks", laid_namedesk_table_blocks)] }
def ComposeQuickSaid : Prop := composeQuickRow.holds Tryz.pinned (OpenSpec.ofChange composeQuickSpec)

/-- ITS FALSE NEIGHBOUR: 'it returns false'. Refute it at one input. -/
def composeQuickWrong : ChangeSpec := { name := "composeQuick", fn := fun _ => fun
  | [d1, d2] => { results := [.lit (.bool false)], args := [d1, d2] }
  | _ => none }
def ComposeQuickWrongFalsely : Prop := composeQuickRow.holds Tryz.pinned (OpenSpec.ofChange composeQuickWrong)

/-- 'namedesklaw8.ComposeShorter': WHATEVER THE INPUT: true; the input reads as it did. -/
def composeShorterSpec : ChangeSpec := { name := "composeShorter", fn := fun _ => fun
  | [d1, d2] => { results := [.lit (.bool true)], args := [d1, d2] }
  | _ => none }
def composeShorterRow : OpenClaim := { program := "ytcjkikbnjadmfaagreatdoor", sum := "c239ae134541c155849b9e3323d59bdee40dbebe59ae076361184fe269f2ebe1", func := "namedesk/namedesklaw8.ComposeShorter", spec := "composeShorter", unfollowed := true, recurses := true, named := ["namedesk/table.blocks"], plainKeys := false, apart := false, laid := [("namedesk/table.blocks", laid_namedesk_table_blocks)] }
def ComposeShorterSaid : Prop := composeShorterRow.holds Tryz.pinned (OpenSpec.ofChange composeShorterSpec)

/-- ITS FALSE NEIGHBOUR: 'it returns false'. Refute it at one input. -/
def composeShorterWrong : ChangeSpec := { name := "composeShorter", fn := fun _ => fun
  | [d1, d2] => { results := [.lit (.bool false)], args := [d1, d2] }
  | _ => none }
def ComposeShorterWrongFalsely : Prop := composeShorterRow.holds Tryz.pinned (OpenSpec.ofChange composeShorterWrong)

/-- 'namedesklaw8.ComposePairs': WHATEVER THE INPUT: true; the input reads as it did. -/
def composePairsSpec : ChangeSpec := { name := "composePairs", fn := fun _ => fun
  | [d1, d2, d3, d4] => { results := [.lit (.bool true)], args := [d1, d2, d3, d4] }
  | _ => none }
def composePairsRow : OpenClaim := { program := "ytcjkikbnjadmfaagreatdoor", sum := "c239ae134541c155849b9e3323d59bdee40dbebe59ae076361184fe269f2ebe1", func := "namedesk/namedesklaw8.ComposePairs", spec := "composePairs", unfollowed := true, recurses := true, named := ["namedesk/table.blocks"], plainKeys := false, apart := false, laid := [("namedesk/table.blocks", laid_namedesk_table_blocks)] }
def ComposePairsSaid : Prop := composePairsRow.holds Tryz.pinned (OpenSpec.ofChange composePairsSpec)

/-- ITS FALSE NEIGHBOUR: 'it returns false'. Refute it at one input. -/
def composePairsWrong : ChangeSpec := { name := "composePairs", fn := fun _ => fun
  | [d1, d2, d3, d4] => { results := [.lit (.bool false)], args := [d1, d2, d3, d4] }
  | _ => none }
def ComposePairsWrongFalsely : Prop := composePairsRow.holds Tryz.pinned (OpenSpec.ofChange composePairsWrong)

/-- 'namedesklaw8.ComposeErrors': WHATEVER THE INPUT: true; the input reads as it did. -/
def composeErrorsSpec : ChangeSpec := { name := "composeErrors", fn := fun _ => fun
  | [d1, d2, d3, d4, d5, d6] => { results := [.lit (.bool true)], args := [d1, d2, d3, d4, d5, d6] }
  | _ => none }
def composeErrorsRow : OpenClaim := { program := "ytcjkikbnjadmfaagreatdoor", sum := "c239ae134541c155849b9e3323d59bdee40dbebe59ae076361184fe269f2ebe1", func := "namedesk/namedesklaw8.ComposeErrors", spec := "composeErrors", unfollowed := true, recurses := true, named := ["namedesk/table.blocks"], plainKeys := false, apart := false, laid := [("namedesk/table.blocks", laid_namedesk_table_blocks)] }
def ComposeErrorsSaid : Prop := composeErrorsRow.holds Tryz.pinned (OpenSpec.ofChange composeErrorsSpec)

/-- ITS FALSE NEIGHBOUR: 'it returns false'. Refute it at one input. -/
def composeErrorsWrong : ChangeSpec := { name := "composeErrors", fn := fun _ => fun
  | [d1, d2, d3, d4, d5, d6] => { results := [.lit (.bool false)], args := [d1, d2, d3, d4, d5, d6] }
  | _ => none }
def ComposeErrorsWrongFalsely : Prop := composeErrorsRow.holds Tryz.pinned (OpenSpec.ofChange composeErrorsWrong)

/- THE SECOND FORM. 'bulk': how many values and letters a reading holds, each counted each time it is reached (what is shared counts as often as it is met; a slice's spare places count too). A statement '..UptoSaid' is the law's where the arguments, and the package variables that the reading takes, are together of bulk at most 1048576: NARROWER than '..Said'. Prove '..Said' where nothing that the law and all that it calls make is longer than what came in: it says more and counts as full. Else prove '..UptoSaid'. A law counts once. -/
mutual
def uptoBulk {H : Type} : DataW H → Nat
  | .lit (.string bytes) => bytes.length + 1
  | .lit _ => 1
  | .nil => 1
  | .ptr d => uptoBulk d + 1
  | .slice elems spare => uptoBulkAll elems + uptoBulkAll spare + 1
  | .agg parts => uptoBulkAll parts + 1
  | .iface _ d => uptoBulk d + 1
  | .map entries => uptoBulkEntries entries + 1
  | .held _ => 1
def uptoBulkAll {H : Type} : List (DataW H) → Nat
  | [] => 0
  | d :: r => uptoBulk d + uptoBulkAll r
def uptoBulkEntries {H : Type} : List (Lit × DataW H) → Nat
  | [] => 0
  | x :: r => uptoBulkEntry x + uptoBulkEntries r
def uptoBulkEntry {H : Type} : Lit × DataW H → Nat
  | (.string bytes, d) => bytes.length + uptoBulk d + 1
  | (_, d) => uptoBulk d + 1
 end
def uptoSmall : (H : Type) → List (DataW H) → Bool := fun _ ds => decide (uptoBulkAll ds ≤ 1048576)
def OpenSpec.upto (s : _root_.Go.ChangeSpec) : _root_.Go.OpenSpec := { _root_.Go.OpenSpec.ofChange s with cond := some uptoSmall }

/-- 'namedesklaw8.ComposeMade', WHERE WHAT IT READS IS OF BULK AT MOST 1048576: true; the input reads as it did. -/
def composeMadeUptoRow : OpenClaim := { program := "ytcjkikbnjadmfaagreatdoor", sum := "c239ae134541c155849b9e3323d59bdee40dbebe59ae076361184fe269f2ebe1", func := "namedesk/namedesklaw8.ComposeMade", spec := "composeMade", unfollowed := true, recurses := true, named := ["namedesk/table.blocks"], plainKeys := false, apart := false, laid := [("namedesk/table.blocks", laid_namedesk_table_blocks)], narrowed := true }
def ComposeMadeUptoSaid : Prop := composeMadeUptoRow.holds Tryz.pinned (OpenSpec.upto composeMadeSpec)

/-- 'namedesklaw8.ComposeTwice', WHERE WHAT IT READS IS OF BULK AT MOST 1048576: true; the input reads as it did. -/
def composeTwiceUptoRow : OpenClaim := { program := "ytcjkikbnjadmfaagreatdoor", sum := "c239ae134541c155849b9e3323d59bdee40dbebe59ae076361184fe269f2ebe1", func := "namedesk/namedesklaw8.ComposeTwice", spec := "composeTwice", unfollowed := true, recurses := true, named := ["namedesk/table.blocks"], plainKeys := false, apart := false, laid := [("namedesk/table.blocks", laid_namedesk_table_blocks)], narrowed := true }
def ComposeTwiceUptoSaid : Prop := composeTwiceUptoRow.holds Tryz.pinned (OpenSpec.upto composeTwiceSpec)

/-- 'namedesklaw8.ComposeEquivalent', WHERE WHAT IT READS IS OF BULK AT MOST 1048576: true; the input reads as it did. -/
def composeEquivalentUptoRow : OpenClaim := { program := "ytcjkikbnjadmfaagreatdoor", sum := "c239ae134541c155849b9e3323d59bdee40dbebe59ae076361184fe269f2ebe1", func := "namedesk/namedesklaw8.ComposeEquivalent", spec := "composeEquivalent", unfollowed := true, recurses := true, named := ["namedesk/table.blocks"], plainKeys := false, apart := false, laid := [("namedesk/table.blocks", laid_namedesk_table_blocks)], narrowed := true }
def ComposeEquivalentUptoSaid : Prop := composeEquivalentUptoRow.holds Tryz.pinned (OpenSpec.upto composeEquivalentSpec)

/-- 'namedesklaw8.ComposeQuick', WHERE WHAT IT READS IS OF BULK AT MOST 1048576: true; the input reads as it did. -/
def composeQuickUptoRow : OpenClaim := { program := "ytcjkikbnjadmfaagreatdoor", sum := "c239ae134541c155849b9e3323d59bdee40dbebe59ae076361184fe269f2ebe1", func := "namedesk/namedesklaw8.ComposeQuick", spec := "composeQuick", unfollowed := true, recurses := true, named := ["namedesk/table.blocks"], plainKeys := false, apart := false, laid := [("namedesk/table.blocks", laid_namedesk_table_blocks)], narrowed := true }
def ComposeQuickUptoSaid : Prop := composeQuickUptoRow.holds Tryz.pinned (OpenSpec.upto composeQuickSpec)

/-- 'namedesklaw8.ComposeShorter', WHERE WHAT IT READS IS OF BULK AT MOST 1048576: true; the input reads as it did. -/
def composeShorterUptoRow : OpenClaim := { program := "ytcjkikbnjadmfaagreatdoor", sum := "c239ae134541c155849b9e3323d59bdee40dbebe59ae076361184fe269f2ebe1", func := "namedesk/namedesklaw8.ComposeShorter", spec := "composeShorter", unfollowed := true, recurses := true, named := ["namedesk/table.blocks"], plainKeys := false, apart := false, laid := [("namedesk/table.blocks", laid_namedesk_table_blocks)], narrowed := true }
def ComposeShorterUptoSaid : Prop := composeShorterUptoRow.holds Tryz.pinned (OpenSpec.upto composeShorterSpec)

/-- 'namedesklaw8.ComposePairs', WHERE WHAT IT READS IS OF BULK AT MOST 1048576: true; the input reads as it did. -/
def composePairsUptoRow : OpenClaim := { program := "ytcjkikbnjadmfaagreatdoor", sum := "c239ae134541c155849b9e3323d59bdee40dbebe59ae076361184fe269f2ebe1", func := "namedesk/namedesklaw8.ComposePairs", spec := "composePairs", unfollowed := true, recurses := true, named := ["namedesk/table.blocks"], plainKeys := false, apart := false, laid := [("namedesk/table.blocks", laid_namedesk_table_blocks)], narrowed := true }
def ComposePairsUptoSaid : Prop := composePairsUptoRow.holds Tryz.pinned (OpenSpec.upto composePairsSpec)

/-- 'namedesklaw8.ComposeErrors', WHERE WHAT IT READS IS OF BULK AT MOST 1048576: true; the input reads as it did. -/
def composeErrorsUptoRow : OpenClaim := { program := "ytcjkikbnjadmfaagreatdoor", sum := "c239ae134541c155849b9e3323d59bdee40dbebe59ae076361184fe269f2ebe1", func := "namedesk/namedesklaw8.ComposeErrors", spec := "composeErrors", unfollowed := true, recurses := true, named := ["namedesk/table.blocks"], plainKeys := false, apart := false, laid := [("namedesk/table.blocks", laid_namedesk_table_blocks)], narrowed := true }
def ComposeErrorsUptoSaid : Prop := composeErrorsUptoRow.holds Tryz.pinned (OpenSpec.upto composeErrorsSpec)

end Rows
end Go.Proofs.YtcjkikbnjadmfaaGreatDoor
