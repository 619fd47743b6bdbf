/-
  NARROWER THAN 'FOR EVERY INPUT', by the rows' own cells (each row's printed sentence says how): ScriptPart: laid · ScriptJapanese: laid · ScriptSingle: laid.
  DERIVED. THE GIVEN ROWS OF THIS SEAT. 3 by the template 'for every input the law returns true; each argument reads behind the call as it read before'; 0 by the template 'total and deterministic' (their statements: YtmgckljgkdahfaaDoorTotals.lean).
  GIVEN WITH THE SEED: the statements are not yours to turn. If you find one false, say at which input.
  Laid BY PROGRAM, IN A SANDBOX (cutbox-rows.mjs): the forced cells as the released guide's own fill.sh prints them over the translation 26927f1a3bc20680… (all of the seat's roots in one cut). By AI agents, Wed Nov 11 2026. No macro, syntax, notation, axiom, sorry.
-/
import Derived.Test.YtmgckljgkdahfaaDoorChecked
import GoSem.Claim
import GoSem.ClaimJoined
import GoSem.ClaimMapViews
import Derived.JoinedTies
import Derived.KernelRfl
namespace Go.Proofs.YtmgckljgkdahfaaDoor
/- THE CELL 'sum', in the pinned program and in every row, IS THE sha256 OF THE DUMP (.gsa) THAT YtmgckljgkdahfaaDoorProg.lean LOADS. Nothing in Lean hashes anything: it is a label: what it is worth is what the hold of that sum in a sandbox is worth. -/
noncomputable def Tryd.pinned : Pinned := { name := "ytmgckljgkdahfaadoor", sum := "26927f1a3bc206801a79a2bcba332d3d4ad154b24e620671c86ac728207cb4da", checked := Tryd.checked }
namespace Rows
def none {H : Type} : Left H := { results := [], args := [] }

/- WHAT THE LISTED PACKAGE-LEVEL VARIABLES READ AS WHEN THE CALL BEGINS. Each datum BY PROGRAM (the guide's laid-datum.mjs) off the statement by which the dump's own 'gosem.cut.vars' lays the variable. In a bare row this is a premise. The card (YtmgckljgkdahfaaDoorCards.lean) ties it to the program's text. -/
def laid_namedesk_table_blocks {H : Type} : DataW H := .slice [.agg [.lit (.int .i64 0), .lit (.int .i64 127), .lit (.int .i64 0)], .agg [.lit (.int .i64 4352), .lit (.int .i64 4370), .lit (.int .i64 0)], .agg [.lit (.int .i64 4449), .lit (.int .i64 4469), .lit (.int .i64 0)], .agg [.lit (.int .i64 4520), .lit (.int .i64 4546), .lit (.int .i64 0)], .agg [.lit (.int .i64 44032), .lit (.int .i64 55203), .lit (.int .i64 0)], .agg [.lit (.int .i64 55296), .lit (.int .i64 57343), .lit (.int .i64 0)]] []

/-- 'namedesklaw19.ScriptPart': WHATEVER THE INPUT: true; the input reads as it did. -/
def scriptPartSpec : ChangeSpec := { name := "scriptPart", fn := fun _ => fun
  | [d1, d2, d3, d4] => { results := [.lit (.bool true)], args := [d1, d2, d3, d4] }
  | _ => none }
def scriptPartRow : OpenClaim := { program := "ytmgckljgkdahfaadoor", sum := "26927f1a3bc206801a79a2bcba332d3d4ad154b24e620671c86ac728207cb4da", func := "namedesk/namedesklaw19.ScriptPart", spec := "scriptPart", unfollowed := true, recurses := true, named := ["namedesk/table.blocks"], plainKeys := false, apart := false, laid := [("namedesk/table.blocks", laid_namedesk_table_blocks)] }
def ScriptPartSaid : Prop := scriptPartRow.holds Tryd.pinned (OpenSpec.ofChange scriptPartSpec)

/-- ITS FALSE NEIGHBOUR: 'it returns false'. Refute it at one input. -/
def scriptPartWrong : ChangeSpec := { name := "scriptPart", fn := fun _ => fun
  | [d1, d2, d3, d4] => { results := [.lit (.bool false)], args := [d1, d2, d3, d4] }
  | _ => none }
def ScriptPartWrongFalsely : Prop := scriptPartRow.holds Tryd.pinned (OpenSpec.ofChange scriptPartWrong)

/-- 'namedesklaw19.ScriptJapanese': WHATEVER THE INPUT: true; the input reads as it did. -/
def scriptJapaneseSpec : ChangeSpec := { name := "scriptJapanese", fn := fun _ => fun
  | [d] => { results := [.lit (.bool true)], args := [d] }
  | _ => none }
def scriptJapaneseRow : OpenClaim := { program := "ytmgckljgkdahfaadoor", sum := "26927f1a3bc206801a79a2bcba332d3d4ad154b24e620671c86ac728207cb4da", func := "namedesk/namedesklaw19.ScriptJapanese", spec := "scriptJapanese", unfollowed := true, recurses := true, named := ["namedesk/table.blocks"], plainKeys := false, apart := false, laid := [("namedesk/table.blocks", laid_namedesk_table_blocks)] }
def ScriptJapaneseSaid : Prop := scriptJapaneseRow.holds Tryd.pinned (OpenSpec.ofChange scriptJapaneseSpec)

/-- ITS FALSE NEIGHBOUR: 'it returns false'. Refute it at one input. -/
def scriptJapaneseWrong : ChangeSpec := { name := "scriptJapanese", fn := fun _ => fun
  | [d] => { results := [.lit (.bool false)], args := [d] }
  | _ => none }
def ScriptJapaneseWrongFalsely : Prop := scriptJapaneseRow.holds Tryd.pinned (OpenSpec.ofChange scriptJapaneseWrong)

/-- 'namedesklaw19.ScriptSingle': WHATEVER THE INPUT: true; the input reads as it did. -/
def scriptSingleSpec : ChangeSpec := { name := "scriptSingle", fn := fun _ => fun
  | [d1, d2] => { results := [.lit (.bool true)], args := [d1, d2] }
  | _ => none }
def scriptSingleRow : OpenClaim := { program := "ytmgckljgkdahfaadoor", sum := "26927f1a3bc206801a79a2bcba332d3d4ad154b24e620671c86ac728207cb4da", func := "namedesk/namedesklaw19.ScriptSingle", spec := "scriptSingle", unfollowed := true, recurses := true, named := ["namedesk/table.blocks"], plainKeys := false, apart := false, laid := [("namedesk/table.blocks", laid_namedesk_table_blocks)] }
def ScriptSingleSaid : Prop := scriptSingleRow.holds Tryd.pinned (OpenSpec.ofChange scriptSingleSpec)

/-- ITS FALSE NEIGHBOUR: 'it returns false'. Refute it at one input. -/
def scriptSingleWrong : ChangeSpec := { name := "scriptSingle", fn := fun _ => fun
  | [d1, d2] => { results := [.lit (.bool false)], args := [d1, d2] }
  | _ => none }
def ScriptSingleWrongFalsely : Prop := scriptSingleRow.holds Tryd.pinned (OpenSpec.ofChange scriptSingleWrong)

/- THE SECOND FORM. 'bulk': how many values and letters a reading holds, each counted each time it is reached (what is shared counts as often as it is met; a slice's spare places count too). A statement '..UptoSaid' is the law's where the arguments, and the package variables that the reading takes, are together of bulk at most 1048576: NARROWER than '..Said'. Prove '..Said' where nothing that the law and all that it calls make is longer than what came in: it says more and counts as full. Else prove '..UptoSaid'. A law counts once. -/
mutual
def uptoBulk {H : Type} : DataW H → Nat
  | .lit (.string bytes) => bytes.length + 1
  | .lit _ => 1
  | .nil => 1
  | .ptr d => uptoBulk d + 1
  | .slice elems spare => uptoBulkAll elems + uptoBulkAll spare + 1
  | .agg parts => uptoBulkAll parts + 1
  | .iface _ d => uptoBulk d + 1
  | .map entries => uptoBulkEntries entries + 1
  | .held _ => 1
def uptoBulkAll {H : Type} : List (DataW H) → Nat
  | [] => 0
  | d :: r => uptoBulk d + uptoBulkAll r
def uptoBulkEntries {H : Type} : List (Lit × DataW H) → Nat
  | [] => 0
  | x :: r => uptoBulkEntry x + uptoBulkEntries r
def uptoBulkEntry {H : Type} : Lit × DataW H → Nat
  | (.string bytes, d) => bytes.length + uptoBulk d + 1
  | (_, d) => uptoBulk d + 1
 end
def uptoSmall : (H : Type) → List (DataW H) → Bool := fun _ ds => decide (uptoBulkAll ds ≤ 1048576)
def OpenSpec.upto (s : _root_.Go.ChangeSpec) : _root_.Go.OpenSpec := { _root_.Go.OpenSpec.ofChange s with cond := some uptoSmall }

/-- 'namedesklaw19.ScriptPart', WHERE WHAT IT READS IS OF BULK AT MOST 1048576: true; the input reads as it did. -/
def scriptPartUptoRow : OpenClaim := { program := "ytmgckljgkdahfaadoor", sum := "26927f1a3bc206801a79a2bcba332d3d4ad154b24e620671c86ac728207cb4da", func := "namedesk/namedesklaw19.ScriptPart", spec := "scriptPart", unfollowed := true, recurses := true, named := ["namedesk/table.blocks"], plainKeys := false, apart := false, laid := [("namedesk/table.blocks", laid_namedesk_table_blocks)], narrowed := true }
def ScriptPartUptoSaid : Prop := scriptPartUptoRow.holds Tryd.pinned (OpenSpec.upto scriptPartSpec)

/-- 'namedesklaw19.ScriptJapanese', WHERE WHAT IT READS IS OF BULK AT MOST 1048576: true; the input reads as it did. -/
def scriptJapaneseUptoRow : OpenClaim := { program := "ytmgckljgkdahfaadoor", sum := "26927f1a3bc206801a79a2bcba332d3d4ad154b24e620671c86ac728207cb4da", func := "namedesk/namedesklaw19.ScriptJapanese", spec := "scriptJapanese", unfollowed := true, recurses := true, named := ["namedesk/table.blocks"], plainKeys := false, apart := false, laid := [("namedesk/table.blocks", laid_namedesk_table_blocks)], narrowed := true }
def ScriptJapaneseUptoSaid : Prop := scriptJapaneseUptoRow.holds Tryd.pinned (OpenSpec.upto scriptJapaneseSpec)

/-- 'namedesklaw19.ScriptSingle', WHERE WHAT IT READS IS OF BULK AT MOST 1048576: true; the input reads as it did. -/
def scriptSingleUptoRow : OpenClaim := { program := "ytmgckljgkdahfaadoor", sum := "26927f1a3bc206801a79a2bcba332d3d4ad154b24e620671c86ac728207cb4da", func := "namedesk/namedesklaw19.ScriptSingle", spec := "scriptSingle", unfollowed := true, recurses := true, named := ["namedesk/table.blocks"], plainKeys := false, apart := false, laid := [("namedesk/table.blocks", laid_namedesk_table_blocks)], narrowed := true }
def ScriptSingleUptoSaid : Prop := scriptSingleUptoRow.holds Tryd.pinned (OpenSpec.upto scriptSingleSpec)

end Rows
end Go.Proofs.YtmgckljgkdahfaaDoor
