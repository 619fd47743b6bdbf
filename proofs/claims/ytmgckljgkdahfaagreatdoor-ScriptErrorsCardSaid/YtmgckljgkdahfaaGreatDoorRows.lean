/-
  NARROWER THAN 'FOR EVERY INPUT', by the rows' own cells (each row's printed sentence says how): ContextMade: laid · ContextErrors: laid · JoinerMade: laid · JoinerErrors: laid · ScriptOrder: laid · ScriptMade: laid · ScriptErrors: laid.
  DERIVED. THE GIVEN ROWS OF THIS SEAT. 7 by the template 'for every input the law returns true; each argument reads behind the call as it read before'; 0 by the template 'total and deterministic' (their statements: YtmgckljgkdahfaaGreatDoorTotals.lean).
  GIVEN WITH THE SEED: the statements are not yours to turn. If you find one false, say at which input.
  Laid BY PROGRAM, IN A SANDBOX (cutbox-rows.mjs): the forced cells as the released guide's own fill.sh prints them over the translation f67398acf7eb62e3… (all of the seat's roots in one cut). By AI agents, Wed Nov 11 2026. No macro, syntax, notation, axiom, sorry.
-/
import Derived.Test.YtmgckljgkdahfaaGreatDoorChecked
import GoSem.Claim
import GoSem.ClaimJoined
import GoSem.ClaimMapViews
import Derived.JoinedTies
import Derived.KernelRfl
namespace Go.Proofs.YtmgckljgkdahfaaGreatDoor
/- THE CELL 'sum', in the pinned program and in every row, IS THE sha256 OF THE DUMP (.gsa) THAT YtmgckljgkdahfaaGreatDoorProg.lean LOADS. Nothing in Lean hashes anything: it is a label: what it is worth is what the hold of that sum in a sandbox is worth. -/
noncomputable def Tryz.pinned : Pinned := { name := "ytmgckljgkdahfaagreatdoor", sum := "f67398acf7eb62e3eda22ebf6819e13ef477dfbc738254f3bfd4b51afaf0465d", checked := Tryz.checked }
namespace Rows
def none {H : Type} : Left H := { results := [], args := [] }

/- WHAT THE LISTED PACKAGE-LEVEL VARIABLES READ AS WHEN THE CALL BEGINS. Each datum BY PROGRAM (the guide's laid-datum.mjs) off the statement by which the dump's own 'gosem.cut.vars' lays the variable. In a bare row this is a premise. The card (YtmgckljgkdahfaaGreatDoorCards.lean) ties it to the program's text. -/
def laid_namedesk_table_blocks {H : Type} : DataW H := .slice [.agg [.lit (.int .i64 0), .lit (.int .i64 127), .lit (.int .i64 0)], .agg [.lit (.int .i64 4352), .lit (.int .i64 4370), .lit (.int .i64 0)], .agg [.lit (.int .i64 4449), .lit (.int .i64 4469), .lit (.int .i64 0)], .agg [.lit (.int .i64 4520), .lit (.int .i64 4546), .lit (.int .i64 0)], .agg [.lit (.int .i64 44032), .lit (.int .i64 55203), .lit (.int .i64 0)], .agg [.lit (.int .i64 55296), .lit (.int .i64 57343), .lit (.int .i64 0)]] []

/-- 'namedesklaw15.ContextMade': WHATEVER THE INPUT: true; the input reads as it did. -/
def contextMadeSpec : ChangeSpec := { name := "contextMade", fn := fun _ => fun
  | [d1, d2, d3] => { results := [.lit (.bool true)], args := [d1, d2, d3] }
  | _ => none }
def contextMadeRow : OpenClaim := { program := "ytmgckljgkdahfaagreatdoor", sum := "f67398acf7eb62e3eda22ebf6819e13ef477dfbc738254f3bfd4b51afaf0465d", func := "namedesk/namedesklaw15.ContextMade", spec := "contextMade", unfollowed := true, recurses := true, named := ["namedesk/table.blocks"], plainKeys := false, apart := false, laid := [("namedesk/table.blocks", laid_namedesk_table_blocks)] }
def ContextMadeSaid : Prop := contextMadeRow.holds Tryz.pinned (OpenSpec.ofChange contextMadeSpec)

/-- ITS FALSE NEIGHBOUR: 'it returns false'. Refute it at one input. -/
def contextMadeWrong : ChangeSpec := { name := "contextMade", fn := fun _ => fun
  | [d1, d2, d3] => { results := [.lit (.bool false)], args := [d1, d2, d3] }
  | _ => none }
def ContextMadeWrongFalsely : Prop := contextMadeRow.holds Tryz.pinned (OpenSpec.ofChange contextMadeWrong)

/-- 'namedesklaw15.ContextErrors': WHATEVER THE INPUT: true; the input reads as it did. -/
def contextErrorsSpec : ChangeSpec := { name := "contextErrors", fn := fun _ => fun
  | [d1, d2, d3, d4, d5, d6, d7, d8] => { results := [.lit (.bool true)], args := [d1, d2, d3, d4, d5, d6, d7, d8] }
  | _ => none }
def contextErrorsRow : OpenClaim := { program := "ytmgckljgkdahfaagreatdoor", sum := "f67398acf7eb62e3eda22ebf6819e13ef477dfbc738254f3bfd4b51afaf0465d", func := "namedesk/namedesklaw15.ContextErrors", spec := "contextErrors", unfollowed := true, recurses := true, named := ["namedesk/table.blocks"], plainKeys := false, apart := false, laid := [("namedesk/table.blocks", laid_namedesk_table_blocks)] }
def ContextErrorsSaid : Prop := contextErrorsRow.holds Tryz.pinned (OpenSpec.ofChange contextErrorsSpec)

/-- ITS FALSE NEIGHBOUR: 'it returns false'. Refute it at one input. -/
def contextErrorsWrong : ChangeSpec := { name := "contextErrors", fn := fun _ => fun
  | [d1, d2, d3, d4, d5, d6, d7, d8] => { results := [.lit (.bool false)], args := [d1, d2, d3, d4, d5, d6, d7, d8] }
  | _ => none }
def ContextErrorsWrongFalsely : Prop := contextErrorsRow.holds Tryz.pinned (OpenSpec.ofChange contextErrorsWrong)

/-- 'namedesklaw14.JoinerMade': WHATEVER THE INPUT: true; the input reads as it did. -/
def joinerMadeSpec : ChangeSpec := { name := "joinerMade", fn := fun _ => fun
  | [d1, d2, d3] => { results := [.lit (.bool true)], args := [d1, d2, d3] }
  | _ => none }
def joinerMadeRow : OpenClaim := { program := "ytmgckljgkdahfaagreatdoor", sum := "f67398acf7eb62e3eda22ebf6819e13ef477dfbc738254f3bfd4b51afaf0465d", func := "namedesk/namedesklaw14.JoinerMade", spec := "joinerMade", unfollowed := true, recurses := true, named := ["namedesk/table.blocks"], plainKeys := false, apart := false, laid := [("namedesk/table.blocks", laid_namedesk_table_blocks)] }
def JoinerMadeSaid : Prop := joinerMadeRow.holds Tryz.pinned (OpenSpec.ofChange joinerMadeSpec)

/-- ITS FALSE NEIGHBOUR: 'it returns false'. Refute it at one input. -/
def joinerMadeWrong : ChangeSpec := { name := "joinerMade", fn := fun _ => fun
  | [d1, d2, d3] => { results := [.lit (.bool false)], args := [d1, d2, d3] }
  | _ => none }
def JoinerMadeWrongFalsely : Prop := joinerMadeRow.holds Tryz.pinned (OpenSpec.ofChange joinerMadeWrong)

/-- 'namedesklaw14.JoinerErrors': WHATEVER THE INPUT: true; the input reads as it did. -/
def joinerErrorsSpec : ChangeSpec := { name := "joinerErrors", fn := fun _ => fun
  | [d1, d2, d3, d4, d5, d6, d7, d8] => { results := [.lit (.bool true)], args := [d1, d2, d3, d4, d5, d6, d7, d8] }
  | _ => none }
def joinerErrorsRow : OpenClaim := { program := "ytmgckljgkdahfaagreatdoor", sum := "f67398acf7eb62e3eda22ebf6819e13ef477dfbc738254f3bfd4b51afaf0465d", func := "namedesk/namedesklaw14.JoinerErrors", spec := "joinerErrors", unfollowed := true, recurses := true, named := ["namedesk/table.blocks"], plainKeys := false, apart := false, laid := [("namedesk/table.blocks", laid_namedesk_table_blocks)] }
def JoinerErrorsSaid : Prop := joinerErrorsRow.holds Tryz.pinned (OpenSpec.ofChange joinerErrorsSpec)

/-- ITS FALSE NEIGHBOUR: 'it returns false'. Refute it at one input. -/
def joinerErrorsWrong : ChangeSpec := { name := "joinerErrors", fn := fun _ => fun
  | [d1, d2, d3, d4, d5, d6, d7, d8] => { results := [.lit (.bool false)], args := [d1, d2, d3, d4, d5, d6, d7, d8] }
  | _ => none }
def JoinerErrorsWrongFalsely : Prop := joinerErrorsRow.holds Tryz.pinned (OpenSpec.ofChange joinerErrorsWrong)

/-- 'namedesklaw19.ScriptOrder': WHATEVER THE INPUT: true; the input reads as it did. -/
def scriptOrderSpec : ChangeSpec := { name := "scriptOrder", fn := fun _ => fun
  | [d1, d2] => { results := [.lit (.bool true)], args := [d1, d2] }
  | _ => none }
def scriptOrderRow : OpenClaim := { program := "ytmgckljgkdahfaagreatdoor", sum := "f67398acf7eb62e3eda22ebf6819e13ef477dfbc738254f3bfd4b51afaf0465d", func := "namedesk/namedesklaw19.ScriptOrder", spec := "scriptOrder", unfollowed := true, recurses := true, named := ["namedesk/table.blocks"], plainKeys := false, apart := false, laid := [("namedesk/table.blocks", laid_namedesk_table_blocks)] }
def ScriptOrderSaid : Prop := scriptOrderRow.holds Tryz.pinned (OpenSpec.ofChange scriptOrderSpec)

/-- ITS FALSE NEIGHBOUR: 'it returns false'. Refute it at one input. -/
def scriptOrderWrong : ChangeSpec := { name := "scriptOrder", fn := fun _ => fun
  | [d1, d2] => { results := [.lit (.bool false)], args := [d1, d2] }
  | _ => none }
def ScriptOrderWrongFalsely : Prop := scriptOrderRow.holds Tryz.pinned (OpenSpec.ofChange scriptOrderWrong)

/-- 'namedesklaw19.ScriptMade': WHATEVER THE INPUT: true; the input reads as it did. -/
def scriptMadeSpec : ChangeSpec := { name := "scriptMade", fn := fun _ => fun
  | [d1, d2, d3, d4, d5] => { results := [.lit (.bool true)], args := [d1, d2, d3, d4, d5] }
  | _ => none }
def scriptMadeRow : OpenClaim := { program := "ytmgckljgkdahfaagreatdoor", sum := "f67398acf7eb62e3eda22ebf6819e13ef477dfbc738254f3bfd4b51afaf0465d", func := "namedesk/namedesklaw19.ScriptMade", spec := "scriptMade", unfollowed := true, recurses := true, named := ["namedesk/table.blocks"], plainKeys := false, apart := false, laid := [("namedesk/table.blocks", laid_namedesk_table_blocks)] }
def ScriptMadeSaid : Prop := scriptMadeRow.holds Tryz.pinned (OpenSpec.ofChange scriptMadeSpec)

/-- ITS FALSE NEIGHBOUR: 'it returns false'. Refute it at one input. -/
def scriptMadeWrong : ChangeSpec := { name := "scriptMade", fn := fun _ => fun
  | [d1, d2, d3, d4, d5] => { results := [.lit (.bool false)], args := [d1, d2, d3, d4, d5] }
  | _ => none }
def ScriptMadeWrongFalsely : Prop := scriptMadeRow.holds Tryz.pinned (OpenSpec.ofChange scriptMadeWrong)

/-- 'namedesklaw19.ScriptErrors': WHATEVER THE INPUT: true; the input reads as it did. -/
def scriptErrorsSpec : ChangeSpec := { name := "scriptErrors", fn := fun _ => fun
  | [d1, d2, d3, d4, d5, d6, d7] => { results := [.lit (.bool true)], args := [d1, d2, d3, d4, d5, d6, d7] }
  | _ => none }
def scriptErrorsRow : OpenClaim := { program := "ytmgckljgkdahfaagreatdoor", sum := "f67398acf7eb62e3eda22ebf6819e13ef477dfbc738254f3bfd4b51afaf0465d", func := "namedesk/namedesklaw19.ScriptErrors", spec := "scriptErrors", unfollowed := true, recurses := true, named := ["namedesk/table.blocks"], plainKeys := false, apart := false, laid := [("namedesk/table.blocks", laid_namedesk_table_blocks)] }
def ScriptErrorsSaid : Prop := scriptErrorsRow.holds Tryz.pinned (OpenSpec.ofChange scriptErrorsSpec)

/-- ITS FALSE NEIGHBOUR: 'it returns false'. Refute it at one input. -/
def scriptErrorsWrong : ChangeSpec := { name := "scriptErrors", fn := fun _ => fun
  | [d1, d2, d3, d4, d5, d6, d7] => { results := [.lit (.bool false)], args := [d1, d2, d3, d4, d5, d6, d7] }
  | _ => none }
def ScriptErrorsWrongFalsely : Prop := scriptErrorsRow.holds Tryz.pinned (OpenSpec.ofChange scriptErrorsWrong)

/- THE SECOND FORM. 'bulk': how many values and letters a reading holds, each counted each time it is reached (what is shared counts as often as it is met; a slice's spare places count too). A statement '..UptoSaid' is the law's where the arguments, and the package variables that the reading takes, are together of bulk at most 1048576: NARROWER than '..Said'. Prove '..Said' where nothing that the law and all that it calls make is longer than what came in: it says more and counts as full. Else prove '..UptoSaid'. A law counts once. -/
mutual
def uptoBulk {H : Type} : DataW H → Nat
  | .lit (.string bytes) => bytes.length + 1
  | .lit _ => 1
  | .nil => 1
  | .ptr d => uptoBulk d + 1
  | .slice elems spare => uptoBulkAll elems + uptoBulkAll spare + 1
  | .agg parts => uptoBulkAll parts + 1
  | .iface _ d => uptoBulk d + 1
  | .map entries => uptoBulkEntries entries + 1
  | .held _ => 1
def uptoBulkAll {H : Type} : List (DataW H) → Nat
  | [] => 0
  | d :: r => uptoBulk d + uptoBulkAll r
def uptoBulkEntries {H : Type} : List (Lit × DataW H) → Nat
  | [] => 0
  | x :: r => uptoBulkEntry x + uptoBulkEntries r
def uptoBulkEntry {H : Type} : Lit × DataW H → Nat
  | (.string bytes, d) => bytes.length + uptoBulk d + 1
  | (_, d) => uptoBulk d + 1
 end
def uptoSmall : (H : Type) → List (DataW H) → Bool := fun _ ds => decide (uptoBulkAll ds ≤ 1048576)
def OpenSpec.upto (s : _root_.Go.ChangeSpec) : _root_.Go.OpenSpec := { _root_.Go.OpenSpec.ofChange s with cond := some uptoSmall }

/-- 'namedesklaw15.ContextMade', WHERE WHAT IT READS IS OF BULK AT MOST 1048576: true; the input reads as it did. -/
def contextMadeUptoRow : OpenClaim := { program := "ytmgckljgkdahfaagreatdoor", sum := "f67398acf7eb62e3eda22ebf6819e13ef477dfbc738254f3bfd4b51afaf0465d", func := "namedesk/namedesklaw15.ContextMade", spec := "contextMade", unfollowed := true, recurses := true, named := ["namedesk/table.blocks"], plainKeys := false, apart := false, laid := [("namedesk/table.blocks", laid_namedesk_table_blocks)], narrowed := true }
def ContextMadeUptoSaid : Prop := contextMadeUptoRow.holds Tryz.pinned (OpenSpec.upto contextMadeSpec)

/-- 'namedesklaw15.ContextErrors', WHERE WHAT IT READS IS OF BULK AT MOST 1048576: true; the input reads as it did. -/
def contextErrorsUptoRow : OpenClaim := { program := "ytmgckljgkdahfaagreatdoor", sum := "f67398acf7eb62e3eda22ebf6819e13ef477dfbc738254f3bfd4b51afaf0465d", func := "namedesk/namedesklaw15.ContextErrors", spec := "contextErrors", unfollowed := true, recurses := true, named := ["namedesk/table.blocks"], plainKeys := false, apart := false, laid := [("namedesk/table.blocks", laid_namedesk_table_blocks)], narrowed := true }
def ContextErrorsUptoSaid : Prop := contextErrorsUptoRow.holds Tryz.pinned (OpenSpec.upto contextErrorsSpec)

/-- 'namedesklaw14.JoinerMade', WHERE WHAT IT READS IS OF BULK AT MOST 1048576: true; the input reads as it did. -/
def joinerMadeUptoRow : OpenClaim := { program := "ytmgckljgkdahfaagreatdoor", sum := "f67398acf7eb62e3eda22ebf6819e13ef477dfbc738254f3bfd4b51afaf0465d", func := "namedesk/namedesklaw14.JoinerMade", spec := "joinerMade", unfollowed := true, recurses := true, named := ["namedesk/table.blocks"], plainKeys := false, apart := false, laid := [("namedesk/table.blocks", laid_namedesk_table_blocks)], narrowed := true }
def JoinerMadeUptoSaid : Prop := joinerMadeUptoRow.holds Tryz.pinned (OpenSpec.upto joinerMadeSpec)

/-- 'namedesklaw14.JoinerErrors', WHERE WHAT IT READS IS OF BULK AT MOST 1048576: true; the input reads as it did. -/
def joinerErrorsUptoRow : OpenClaim := { program := "ytmgckljgkdahfaagreatdoor", sum := "f67398acf7eb62e3eda22ebf6819e13ef477dfbc738254f3bfd4b51afaf0465d", func := "namedesk/namedesklaw14.JoinerErrors", spec := "joinerErrors", unfollowed := true, recurses := true, named := ["namedesk/table.blocks"], plainKeys := false, apart := false, laid := [("namedesk/table.blocks", laid_namedesk_table_blocks)], narrowed := true }
def JoinerErrorsUptoSaid : Prop := joinerErrorsUptoRow.holds Tryz.pinned (OpenSpec.upto joinerErrorsSpec)

/-- 'namedesklaw19.ScriptOrder', WHERE WHAT IT READS IS OF BULK AT MOST 1048576: true; the input reads as it did. -/
def scriptOrderUptoRow : OpenClaim := { program := "ytmgckljgkdahfaagreatdoor", sum := "f67398acf7eb62e3eda22ebf6819e13ef477dfbc738254f3bfd4b51afaf0465d", func := "namedesk/namedesklaw19.ScriptOrder", spec := "scriptOrder", unfollowed := true, recurses := true, named := ["namedesk/table.blocks"], plainKeys := false, apart := false, laid := [("namedesk/table.blocks", laid_namedesk_table_blocks)], narrowed := true }
def ScriptOrderUptoSaid : Prop := scriptOrderUptoRow.holds Tryz.pinned (OpenSpec.upto scriptOrderSpec)

/-- 'namedesklaw19.ScriptMade', WHERE WHAT IT READS IS OF BULK AT MOST 1048576: true; the input reads as it did. -/
def scriptMadeUptoRow : OpenClaim := { program := "ytmgckljgkdahfaagreatdoor", sum := "f67398acf7eb62e3eda22ebf6819e13ef477dfbc738254f3bfd4b51afaf0465d", func := "namedesk/namedesklaw19.ScriptMade", spec := "scriptMade", unfollowed := true, recurses := true, named := ["namedesk/table.blocks"], plainKeys := false, apart := false, laid := [("namedesk/table.blocks", laid_namedesk_table_blocks)], narrowed := true }
def ScriptMadeUptoSaid : Prop := scriptMadeUptoRow.holds Tryz.pinned (OpenSpec.upto scriptMadeSpec)

/-- 'namedesklaw19.ScriptErrors', WHERE WHAT IT READS IS OF BULK AT MOST 1048576: true; the input reads as it did. -/
def scriptErrorsUptoRow : OpenClaim := { program := "ytmgckljgkdahfaagreatdoor", sum := "f67398acf7eb62e3eda22ebf6819e13ef477dfbc738254f3bfd4b51afaf0465d", func := "namedesk/namedesklaw19.ScriptErrors", spec := "scriptErrors", unfollowed := true, recurses := true, named := ["namedesk/table.blocks"], plainKeys := false, apart := false, laid := [("namedesk/table.blocks", laid_namedesk_table_blocks)], narrowed := true }
def ScriptErrorsUptoSaid : Prop := scriptErrorsUptoRow.holds Tryz.pinned (OpenSpec.upto scriptErrorsSpec)

end Rows
end Go.Proofs.YtmgckljgkdahfaaGreatDoor
