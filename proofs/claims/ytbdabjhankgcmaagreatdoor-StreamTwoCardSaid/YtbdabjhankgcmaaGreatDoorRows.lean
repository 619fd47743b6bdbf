/-
  NARROWER THAN 'FOR EVERY INPUT', by the rows' own cells (each row's printed sentence says how): ComposeEquivalent: laid · StreamNew: laid · StreamPush: laid · StreamWhole: laid · StreamRefused: laid · StreamBoundary: laid · StreamTwo: laid · ValidMade: laid · ValidErrors: laid · ValidNormal: laid.
  DERIVED. THE GIVEN ROWS OF THIS SEAT. 10 by the template 'for every input the law returns true; each argument reads behind the call as it read before'; 0 by the template 'total and deterministic' (their statements: YtbdabjhankgcmaaGreatDoorTotals.lean).
  GIVEN WITH THE SEED: the statements are not yours to turn. If you find one false, say at which input.
  Laid BY PROGRAM, IN A SANDBOX (cutbox-rows.mjs): the forced cells as the released guide's own fill.sh prints them over the translation 0498d59e2e2fd1cc… (all of the seat's roots in one cut). By AI agents, Wed Nov 11 2026. No macro, syntax, notation, axiom, sorry.
-/
import Derived.Test.YtbdabjhankgcmaaGreatDoorChecked
import GoSem.Claim
import GoSem.ClaimJoined
import GoSem.ClaimMapViews
import Derived.JoinedTies
import Derived.KernelRfl
namespace Go.Proofs.YtbdabjhankgcmaaGreatDoor
/- THE CELL 'sum', in the pinned program and in every row, IS THE sha256 OF THE DUMP (.gsa) THAT YtbdabjhankgcmaaGreatDoorProg.lean LOADS. Nothing in Lean hashes anything: it is a label: what it is worth is what the hold of that sum in a sandbox is worth. -/
noncomputable def Tryz.pinned : Pinned := { name := "ytbdabjhankgcmaagreatdoor", sum := "0498d59e2e2fd1cc48530ae3089350cc81d049872ade02f6f8a104e96f36c66c", checked := Tryz.checked }
namespace Rows
def none {H : Type} : Left H := { results := [], args := [] }

/- WHAT THE LISTED PACKAGE-LEVEL VARIABLES READ AS WHEN THE CALL BEGINS. Each datum BY PROGRAM (the guide's laid-datum.mjs) off the statement by which the dump's own 'gosem.cut.vars' lays the variable. In a bare row this is a premise. The card (YtbdabjhankgcmaaGreatDoorCards.lean) ties it to the program's text. -/
def laid_namedesk_table_blocks {H : Type} : DataW H := .slice [.agg [.lit (.int .i64 0), .lit (.int .i64 127), .lit (.int .i64 0)], .agg [.lit (.int .i64 4352), .lit (.int .i64 4370), .lit (.int .i64 0)], .agg [.lit (.int .i64 4449), .lit (.int .i64 4469), .lit (.int .i64 0)], .agg [.lit (.int .i64 4520), .lit (.int .i64 4546), .lit (.int .i64 0)], .agg [.lit (.int .i64 44032), .lit (.int .i64 55203), .lit (.int .i64 0)], .agg [.lit (.int .i64 55296), .lit (.int .i64 57343), .lit (.int .i64 0)]] []

/-- 'namedesklaw8.ComposeEquivalent': WHATEVER THE INPUT: true; the input reads as it did. -/
def composeEquivalentSpec : ChangeSpec := { name := "composeEquivalent", fn := fun _ => fun
  | [d1, d2, d3, d4] => { results := [.lit (.bool true)], args := [d1, d2, d3, d4] }
  | _ => none }
def composeEquivalentRow : OpenClaim := { program := "ytbdabjhankgcmaagreatdoor", sum := "0498d59e2e2fd1cc48530ae3089350cc81d049872ade02f6f8a104e96f36c66c", func := "namedesk/namedesklaw8.ComposeEquivalent", spec := "composeEquivalent", unfollowed := true, recurses := true, named := ["namedesk/table.blocks"], plainKeys := false, apart := false, laid := [("namedesk/table.blocks", laid_namedesk_table_blocks)] }
def ComposeEquivalentSaid : Prop := composeEquivalentRow.holds Tryz.pinned (OpenSpec.ofChange composeEquivalentSpec)

/-- ITS FALSE NEIGHBOUR: 'it returns false'. Refute it at one input. -/
def composeEquivalentWrong : ChangeSpec := { name := "composeEquivalent", fn := fun _ => fun
  | [d1, d2, d3, d4] => { results := [.lit (.bool false)], args := [d1, d2, d3, d4] }
  | _ => none }
def ComposeEquivalentWrongFalsely : Prop := composeEquivalentRow.holds Tryz.pinned (OpenSpec.ofChange composeEquivalentWrong)

/-- 'namedesklaw9.StreamNew': WHATEVER THE INPUT: true; the input reads as it did. -/
def streamNewSpec : ChangeSpec := { name := "streamNew", fn := fun _ => fun
  | [d1, d2, d3, d4, d5, d6, d7] => { results := [.lit (.bool true)], args := [d1, d2, d3, d4, d5, d6, d7] }
  | _ => none }
def streamNewRow : OpenClaim := { program := "ytbdabjhankgcmaagreatdoor", sum := "0498d59e2e2fd1cc48530ae3089350cc81d049872ade02f6f8a104e96f36c66c", func := "namedesk/namedesklaw9.StreamNew", spec := "streamNew", unfollowed := true, recurses := true, named := ["namedesk/table.blocks"], plainKeys := false, apart := false, laid := [("namedesk/table.blocks", laid_namedesk_table_blocks)] }
def StreamNewSaid : Prop := streamNewRow.holds Tryz.pinned (OpenSpec.ofChange streamNewSpec)

/-- ITS FALSE NEIGHBOUR: 'it returns false'. Refute it at one input. -/
def streamNewWrong : ChangeSpec := { name := "streamNew", fn := fun _ => fun
  | [d1, d2, d3, d4, d5, d6, d7] => { results := [.lit (.bool false)], args := [d1, d2, d3, d4, d5, d6, d7] }
  | _ => none }
def StreamNewWrongFalsely : Prop := streamNewRow.holds Tryz.pinned (OpenSpec.ofChange streamNewWrong)

/-- 'namedesklaw9.StreamPush': WHATEVER THE INPUT: true; the input reads as it did. -/
def streamPushSpec : ChangeSpec := { name := "streamPush", fn := fun _ => fun
  | [d1, d2, d3, d4] => { results := [.lit (.bool true)], args := [d1, d2, d3, d4] }
  | _ => none }
def streamPushRow : OpenClaim := { program := "ytbdabjhankgcmaagreatdoor", sum := "0498d59e2e2fd1cc48530ae3089350cc81d049872ade02f6f8a104e96f36c66c", func := "namedesk/namedesklaw9.StreamPush", spec := "streamPush", unfollowed := true, recurses := true, named := ["namedesk/table.blocks"], plainKeys := false, apart := false, laid := [("namedesk/table.blocks", laid_namedesk_table_blocks)] }
def StreamPushSaid : Prop := streamPushRow.holds Tryz.pinned (OpenSpec.ofChange streamPushSpec)

/-- ITS FALSE NEIGHBOUR: 'it returns false'. Refute it at one input. -/
def streamPushWrong : ChangeSpec := { name := "streamPush", fn := fun _ => fun
  | [d1, d2, d3, d4] => { results := [.lit (.bool false)], args := [d1, d2, d3, d4] }
  | _ => none }
def StreamPushWrongFalsely : Prop := streamPushRow.holds Tryz.pinned (OpenSpec.ofChange streamPushWrong)

/-- 'namedesklaw9.StreamWhole': WHATEVER THE INPUT: true; the input reads as it did. -/
def streamWholeSpec : ChangeSpec := { name := "streamWhole", fn := fun _ => fun
  | [d1, d2] => { results := [.lit (.bool true)], args := [d1, d2] }
  | _ => none }
def streamWholeRow : OpenClaim := { program := "ytbdabjhankgcmaagreatdoor", sum := "0498d59e2e2fd1cc48530ae3089350cc81d049872ade02f6f8a104e96f36c66c", func := "namedesk/namedesklaw9.StreamWhole", spec := "streamWhole", unfollowed := true, recurses := true, named := ["namedesk/table.blocks"], plainKeys := false, apart := false, laid := [("namedesk/table.blocks", laid_namedesk_table_blocks)] }
def StreamWholeSaid : Prop := streamWholeRow.holds Tryz.pinned (OpenSpec.ofChange streamWholeSpec)

/-- ITS FALSE NEIGHBOUR: 'it returns false'. Refute it at one input. -/
def streamWholeWrong : ChangeSpec := { name := "streamWhole", fn := fun _ => fun
  | [d1, d2] => { results := [.lit (.bool false)], args := [d1, d2] }
  | _ => none }
def StreamWholeWrongFalsely : Prop := streamWholeRow.holds Tryz.pinned (OpenSpec.ofChange streamWholeWrong)

/-- 'namedesklaw9.StreamRefused': WHATEVER THE INPUT: true; the input reads as it did. -/
def streamRefusedSpec : ChangeSpec := { name := "streamRefused", fn := fun _ => fun
  | [d1, d2, d3] => { results := [.lit (.bool true)], args := [d1, d2, d3] }
  | _ => none }
def streamRefusedRow : OpenClaim := { program := "ytbdabjhankgcmaagreatdoor", sum := "0498d59e2e2fd1cc48530ae3089350cc81d049872ade02f6f8a104e96f36c66c", func := "namedesk/namedesklaw9.StreamRefused", spec := "streamRefused", unfollowed := true, recurses := true, named := ["namedesk/table.blocks"], plainKeys := false, apart := false, laid := [("namedesk/table.blocks", laid_namedesk_table_blocks)] }
def StreamRefusedSaid : Prop := streamRefusedRow.holds Tryz.pinned (OpenSpec.ofChange streamRefusedSpec)

/-- ITS FALSE NEIGHBOUR: 'it returns false'. Refute it at one input. -/
def streamRefusedWrong : ChangeSpec := { name := "streamRefused", fn := fun _ => fun
  | [d1, d2, d3] => { results := [.lit (.bool false)], args := [d1, d2, d3] }
  | _ => none }
def StreamRefusedWrongFalsely : Prop := streamRefusedRow.holds Tryz.pinned (OpenSpec.ofChange streamRefusedWrong)

/-- 'namedesklaw9.StreamBoundary': WHATEVER THE INPUT: true; the input reads as it did. -/
def streamBoundarySpec : ChangeSpec := { name := "streamBoundary", fn := fun _ => fun
  | [d1, d2, d3] => { results := [.lit (.bool true)], args := [d1, d2, d3] }
  | _ => none }
def streamBoundaryRow : OpenClaim := { program := "ytbdabjhankgcmaagreatdoor", sum := "0498d59e2e2fd1cc48530ae3089350cc81d049872ade02f6f8a104e96f36c66c", func := "namedesk/namedesklaw9.StreamBoundary", spec := "streamBoundary", unfollowed := true, recurses := true, named := ["namedesk/table.blocks"], plainKeys := false, apart := false, laid := [("namedesk/table.blocks", laid_namedesk_table_blocks)] }
def StreamBoundarySaid : Prop := streamBoundaryRow.holds Tryz.pinned (OpenSpec.ofChange streamBoundarySpec)

/-- ITS FALSE NEIGHBOUR: 'it returns false'. Refute it at one input. -/
def streamBoundaryWrong : ChangeSpec := { name := "streamBoundary", fn := fun _ => fun
  | [d1, d2, d3] => { results := [.lit (.bool false)], args := [d1, d2, d3] }
  | _ => none }
def StreamBoundaryWrongFalsely : Prop := streamBoundaryRow.holds Tryz.pinned (OpenSpec.ofChange streamBoundaryWrong)

/-- 'namedesklaw9.StreamTwo': WHATEVER THE INPUT: true; the input reads as it did. -/
def streamTwoSpec : ChangeSpec := { name := "streamTwo", fn := fun _ => fun
  | [d1, d2, d3] => { results := [.lit (.bool true)], args := [d1, d2, d3] }
  | _ => none }
def streamTwoRow : OpenClaim := { program := "ytbdabjhankgcmaagreatdoor", sum := "0498d59e2e2fd1cc48530ae3089350cc81d049872ade02f6f8a104e96f36c66c", func := "namedesk/namedesklaw9.StreamTwo", spec := "streamTwo", unfollowed := true, recurses := true, named := ["namedesk/table.blocks"], plainKeys := false, apart := false, laid := [("namedesk/table.blocks", laid_namedesk_table_blocks)] }
def StreamTwoSaid : Prop := streamTwoRow.holds Tryz.pinned (OpenSpec.ofChange streamTwoSpec)

/-- ITS FALSE NEIGHBOUR: 'it returns false'. Refute it at one input. -/
def streamTwoWrong : ChangeSpec := { name := "streamTwo", fn := fun _ => fun
  | [d1, d2, d3] => { results := [.lit (.bool false)], args := [d1, d2, d3] }
  | _ => none }
def StreamTwoWrongFalsely : Prop := streamTwoRow.holds Tryz.pinned (OpenSpec.ofChange streamTwoWrong)

/-- 'namedesklaw17.ValidMade': WHATEVER THE INPUT: true; the input reads as it did. -/
def validMadeSpec : ChangeSpec := { name := "validMade", fn := fun _ => fun
  | [d1, d2, d3, d4] => { results := [.lit (.bool true)], args := [d1, d2, d3, d4] }
  | _ => none }
def validMadeRow : OpenClaim := { program := "ytbdabjhankgcmaagreatdoor", sum := "0498d59e2e2fd1cc48530ae3089350cc81d049872ade02f6f8a104e96f36c66c", func := "namedesk/namedesklaw17.ValidMade", spec := "validMade", unfollowed := true, recurses := true, named := ["namedesk/table.blocks"], plainKeys := false, apart := false, laid := [("namedesk/table.blocks", laid_namedesk_table_blocks)] }
def ValidMadeSaid : Prop := validMadeRow.holds Tryz.pinned (OpenSpec.ofChange validMadeSpec)

/-- ITS FALSE NEIGHBOUR: 'it returns false'. Refute it at one input. -/
def validMadeWrong : ChangeSpec := { name := "validMade", fn := fun _ => fun
  | [d1, d2, d3, d4] => { results := [.lit (.bool false)], args := [d1, d2, d3, d4] }
  | _ => none }
def ValidMadeWrongFalsely : Prop := validMadeRow.holds Tryz.pinned (OpenSpec.ofChange validMadeWrong)

/-- 'namedesklaw17.ValidErrors': WHATEVER THE INPUT: true; the input reads as it did. -/
def validErrorsSpec : ChangeSpec := { name := "validErrors", fn := fun _ => fun
  | [d1, d2, d3, d4, d5, d6] => { results := [.lit (.bool true)], args := [d1, d2, d3, d4, d5, d6] }
  | _ => none }
def validErrorsRow : OpenClaim := { program := "ytbdabjhankgcmaagreatdoor", sum := "0498d59e2e2fd1cc48530ae3089350cc81d049872ade02f6f8a104e96f36c66c", func := "namedesk/namedesklaw17.ValidErrors", spec := "validErrors", unfollowed := true, recurses := true, named := ["namedesk/table.blocks"], plainKeys := false, apart := false, laid := [("namedesk/table.blocks", laid_namedesk_table_blocks)] }
def ValidErrorsSaid : Prop := validErrorsRow.holds Tryz.pinned (OpenSpec.ofChange validErrorsSpec)

/-- ITS FALSE NEIGHBOUR: 'it returns false'. Refute it at one input. -/
def validErrorsWrong : ChangeSpec := { name := "validErrors", fn := fun _ => fun
  | [d1, d2, d3, d4, d5, d6] => { results := [.lit (.bool false)], args := [d1, d2, d3, d4, d5, d6] }
  | _ => none }
def ValidErrorsWrongFalsely : Prop := validErrorsRow.holds Tryz.pinned (OpenSpec.ofChange validErrorsWrong)

/-- 'namedesklaw17.ValidNormal': WHATEVER THE INPUT: true; the input reads as it did. -/
def validNormalSpec : ChangeSpec := { name := "validNormal", fn := fun _ => fun
  | [d1, d2] => { results := [.lit (.bool true)], args := [d1, d2] }
  | _ => none }
def validNormalRow : OpenClaim := { program := "ytbdabjhankgcmaagreatdoor", sum := "0498d59e2e2fd1cc48530ae3089350cc81d049872ade02f6f8a104e96f36c66c", func := "namedesk/namedesklaw17.ValidNormal", spec := "validNormal", unfollowed := true, recurses := true, named := ["namedesk/table.blocks"], plainKeys := false, apart := false, laid := [("namedesk/table.blocks", laid_namedesk_table_blocks)] }
def ValidNormalSaid : Prop := validNormalRow.holds Tryz.pinned (OpenSpec.ofChange validNormalSpec)

/-- ITS FALSE NEIGHBOUR: 'it returns false'. Refute it at one input. -/
def validNormalWrong : ChangeSpec := { name := "validNormal", fn := fun _ => fun
  | [d1, d2] => { results := [.lit (.bool false)], args := [d1, d2] }
  | _ => none }
def ValidNormalWrongFalsely : Prop := validNormalRow.holds Tryz.pinned (OpenSpec.ofChange validNormalWrong)

/- THE SECOND FORM. 'bulk': how many values and letters a reading holds, each counted each time it is reached (what is shared counts as often as it is met; a slice's spare places count too). A statement '..UptoSaid' is the law's where the arguments, and the package variables that the reading takes, are together of bulk at most 1048576: NARROWER than '..Said'. Prove '..Said' where nothing that the law and all that it calls make is longer than what came in: it says more and counts as full. Else prove '..UptoSaid'. A law counts once. -/
mutual
def uptoBulk {H : Type} : DataW H → Nat
  | .lit (.string bytes) => bytes.length + 1
  | .lit _ => 1
  | .nil => 1
  | .ptr d => uptoBulk d + 1
  | .slice elems spare => uptoBulkAll elems + uptoBulkAll spare + 1
  | .agg parts => uptoBulkAll parts + 1
  | .iface _ d => uptoBulk d + 1
  | .map entries => uptoBulkEntries entries + 1
  | .held _ => 1
def uptoBulkAll {H : Type} : List (DataW H) → Nat
  | [] => 0
  | d :: r => uptoBulk d + uptoBulkAll r
def uptoBulkEntries {H : Type} : List (Lit × DataW H) → Nat
  | [] => 0
  | x :: r => uptoBulkEntry x + uptoBulkEntries r
def uptoBulkEntry {H : Type} : Lit × DataW H → Nat
  | (.string bytes, d) => bytes.length + uptoBulk d + 1
  | (_, d) => uptoBulk d + 1
 end
def uptoSmall : (H : Type) → List (DataW H) → Bool := fun _ ds => decide (uptoBulkAll ds ≤ 1048576)
def OpenSpec.upto (s : _root_.Go.ChangeSpec) : _root_.Go.OpenSpec := { _root_.Go.OpenSpec.ofChange s with cond := some uptoSmall }

/-- 'namedesklaw8.ComposeEquivalent', WHERE WHAT IT READS IS OF BULK AT MOST 1048576: true; the input reads as it did. -/
def composeEquivalentUptoRow : OpenClaim := { program := "ytbdabjhankgcmaagreatdoor", sum := "0498d59e2e2fd1cc48530ae3089350cc81d049872ade02f6f8a104e96f36c66c", func := "namedesk/namedesklaw8.ComposeEquivalent", spec := "composeEquivalent", unfollowed := true, recurses := true, named := ["namedesk/table.blocks"], plainKeys := false, apart := false, laid := [("namedesk/table.blocks", laid_namedesk_table_blocks)], narrowed := true }
def ComposeEquivalentUptoSaid : Prop := composeEquivalentUptoRow.holds Tryz.pinned (OpenSpec.upto composeEquivalentSpec)

/-- 'namedesklaw9.StreamNew', WHERE WHAT IT READS IS OF BULK AT MOST 1048576: true; the input reads as it did. -/
def streamNewUptoRow : OpenClaim := { program := "ytbdabjhankgcmaagreatdoor", sum := "0498d59e2e2fd1cc48530ae3089350cc81d049872ade02f6f8a104e96f36c66c", func := "namedesk/namedesklaw9.StreamNew", spec := "streamNew", unfollowed := true, recurses := true, named := ["namedesk/table.blocks"], plainKeys := false, apart := false, laid := [("namedesk/table.blocks", laid_namedesk_table_blocks)], narrowed := true }
def StreamNewUptoSaid : Prop := streamNewUptoRow.holds Tryz.pinned (OpenSpec.upto streamNewSpec)

/-- 'namedesklaw9.StreamPush', WHERE WHAT IT READS IS OF BULK AT MOST 1048576: true; the input reads as it did. -/
def streamPushUptoRow : OpenClaim := { program := "ytbdabjhankgcmaagreatdoor", sum := "0498d59e2e2fd1cc48530ae3089350cc81d049872ade02f6f8a104e96f36c66c", func := "namedesk/namedesklaw9.StreamPush", spec := "streamPush", unfollowed := true, recurses := true, named := ["namedesk/table.blocks"], plainKeys := false, apart := false, laid := [("namedesk/table.blocks", laid_namedesk_table_blocks)], narrowed := true }
def StreamPushUptoSaid : Prop := streamPushUptoRow.holds Tryz.pinned (OpenSpec.upto streamPushSpec)

/-- 'namedesklaw9.StreamWhole', WHERE WHAT IT READS IS OF BULK AT MOST 1048576: true; the input reads as it did. -/
def streamWholeUptoRow : OpenClaim := { program := "ytbdabjhankgcmaagreatdoor", sum := "0498d59e2e2fd1cc48530ae3089350cc81d049872ade02f6f8a104e96f36c66c", func := "namedesk/namedesklaw9.StreamWhole", spec := "streamWhole", unfollowed := true, recurses := true, named := ["namedesk/table.blocks"], plainKeys := false, apart := false, laid := [("namedesk/table.blocks", laid_namedesk_table_blocks)], narrowed := true }
def StreamWholeUptoSaid : Prop := streamWholeUptoRow.holds Tryz.pinned (OpenSpec.upto streamWholeSpec)

/-- 'namedesklaw9.StreamRefused', WHERE WHAT IT READS IS OF BULK AT MOST 1048576: true; the input reads as it did. -/
def streamRefusedUptoRow : OpenClaim := { program := "ytbdabjhankgcmaagreatdoor", sum := "0498d59e2e2fd1cc48530ae3089350cc81d049872ade02f6f8a104e96f36c66c", func := "namedesk/namedesklaw9.StreamRefused", spec := "streamRefused", unfollowed := true, recurses := true, named := ["namedesk/table.blocks"], plainKeys := false, apart := false, laid := [("namedesk/table.blocks", laid_namedesk_table_blocks)], narrowed := true }
def StreamRefusedUptoSaid : Prop := streamRefusedUptoRow.holds Tryz.pinned (OpenSpec.upto streamRefusedSpec)

/-- 'namedesklaw9.StreamBoundary', WHERE WHAT IT READS IS OF BULK AT MOST 1048576: true; the input reads as it did. -/
def streamBoundaryUptoRow : OpenClaim := { program := "ytbdabjhankgcmaagreatdoor", sum := "0498d59e2e2fd1cc48530ae3089350cc81d049872ade02f6f8a104e96f36c66c", func := "namedesk/namedesklaw9.StreamBoundary", spec := "streamBoundary", unfollowed := true, recurses := true, named := ["namedesk/table.blocks"], plainKeys := false, apart := false, laid := [("namedesk/table.blocks", laid_namedesk_table_blocks)], narrowed := true }
def StreamBoundaryUptoSaid : Prop := streamBoundaryUptoRow.holds Tryz.pinned (OpenSpec.upto streamBoundarySpec)

/-- 'namedesklaw9.StreamTwo', WHERE WHAT IT READS IS OF BULK AT MOST 1048576: true; the input reads as it did. -/
def streamTwoUptoRow : OpenClaim := { program := "ytbdabjhankgcmaagreatdoor", sum := "0498d59e2e2fd1cc48530ae3089350cc81d049872ade02f6f8a104e96f36c66c", func := "namedesk/namedesklaw9.StreamTwo", spec := "streamTwo", unfollowed := true, recurses := true, named := ["namedesk/table.blocks"], plainKeys := false, apart := false, laid := [("namedesk/table.blocks", laid_namedesk_table_blocks)], narrowed := true }
def StreamTwoUptoSaid : Prop := streamTwoUptoRow.holds Tryz.pinned (OpenSpec.upto streamTwoSpec)

/-- 'namedesklaw17.ValidMade', WHERE WHAT IT READS IS OF BULK AT MOST 1048576: true; the input reads as it did. -/
def validMadeUptoRow : OpenClaim := { program := "ytbdabjhankgcmaagreatdoor", sum := "0498d59e2e2fd1cc48530ae3089350cc81d049872ade02f6f8a104e96f36c66c", func := "namedesk/namedesklaw17.ValidMade", spec := "validMade", unfollowed := true, recurses := true, named := ["namedesk/table.blocks"], plainKeys := false, apart := false, laid := [("namedesk/table.blocks", laid_namedesk_table_blocks)], narrowed := true }
def ValidMadeUptoSaid : Prop := validMadeUptoRow.holds Tryz.pinned (OpenSpec.upto validMadeSpec)

/-- 'namedesklaw17.ValidErrors', WHERE WHAT IT READS IS OF BULK AT MOST 1048576: true; the input reads as it did. -/
def validErrorsUptoRow : OpenClaim := { program := "ytbdabjhankgcmaagreatdoor", sum := "0498d59e2e2fd1cc48530ae3089350cc81d049872ade02f6f8a104e96f36c66c", func := "namedesk/namedesklaw17.ValidErrors", spec := "validErrors", unfollowed := true, recurses := true, named := ["namedesk/table.blocks"], plainKeys := false, apart := false, laid := [("namedesk/table.blocks", laid_namedesk_table_blocks)], narrowed := true }
def ValidErrorsUptoSaid : Prop := validErrorsUptoRow.holds Tryz.pinned (OpenSpec.upto validErrorsSpec)

/-- 'namedesklaw17.ValidNormal', WHERE WHAT IT READS IS OF BULK AT MOST 1048576: true; the input reads as it did. -/
def validNormalUptoRow : OpenClaim := { program := "ytbdabjhankgcmaagreatdoor", sum := "0498d59e2e2fd1cc48530ae3089350cc81d049872ade02f6f8a104e96f36c66c", func := "namedesk/namedesklaw17.ValidNormal", spec := "validNormal", unfollowed := true, recurses := true, named := ["namedesk/table.blocks"], plainKeys := false, apart := false, laid := [("namedesk/table.blocks", laid_namedesk_table_blocks)], narrowed := true }
def ValidNormalUptoSaid : Prop := validNormalUptoRow.holds Tryz.pinned (OpenSpec.upto validNormalSpec)

end Rows
end Go.Proofs.YtbdabjhankgcmaaGreatDoor
