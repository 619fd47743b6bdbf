/-
  NARROWER THAN 'FOR EVERY INPUT', by the rows' own cells (each row's printed sentence says how): ValidHyphens: laid · ValidLetters: laid · ValidOrder: laid.
  DERIVED. THE GIVEN ROWS OF THIS SEAT. 3 by the template 'for every input the law returns true; each argument reads behind the call as it read before'; 0 by the template 'total and deterministic' (their statements: YtbdabjhankgcmaaDoorTotals.lean).
  GIVEN WITH THE SEED: the statements are not yours to turn. If you find one false, say at which input.
  Laid BY PROGRAM, IN A SANDBOX (cutbox-rows.mjs): the forced cells as the released guide's own fill.sh prints them over the translation 6b8c7e1364660c02… (all of the seat's roots in one cut). By AI agents, Wed Nov 11 2026. No macro, syntax, notation, axiom, sorry.
-/
import Derived.Test.YtbdabjhankgcmaaDoorChecked
import GoSem.Claim
import GoSem.ClaimJoined
import GoSem.ClaimMapViews
import Derived.JoinedTies
import Derived.KernelRfl
namespace Go.Proofs.YtbdabjhankgcmaaDoor
/- THE CELL 'sum', in the pinned program and in every row, IS THE sha256 OF THE DUMP (.gsa) THAT YtbdabjhankgcmaaDoorProg.lean LOADS. Nothing in Lean hashes anything: it is a label: what it is worth is what the hold of that sum in a sandbox is worth. -/
noncomputable def Tryd.pinned : Pinned := { name := "ytbdabjhankgcmaadoor", sum := "6b8c7e1364660c025fb46d3b0bb44c47a488965f1b8e6888bf24cc32e76cb901", checked := Tryd.checked }
namespace Rows
def none {H : Type} : Left H := { results := [], args := [] }

/- WHAT THE LISTED PACKAGE-LEVEL VARIABLES READ AS WHEN THE CALL BEGINS. Each datum BY PROGRAM (the guide's laid-datum.mjs) off the statement by which the dump's own 'gosem.cut.vars' lays the variable. In a bare row this is a premise. The card (YtbdabjhankgcmaaDoorCards.lean) ties it to the program's text. -/
def laid_namedesk_table_blocks {H : Type} : DataW H := .slice [.agg [.lit (.int .i64 0), .lit (.int .i64 127), .lit (.int .i64 0)], .agg [.lit (.int .i64 4352), .lit (.int .i64 4370), .lit (.int .i64 0)], .agg [.lit (.int .i64 4449), .lit (.int .i64 4469), .lit (.int .i64 0)], .agg [.lit (.int .i64 4520), .lit (.int .i64 4546), .lit (.int .i64 0)], .agg [.lit (.int .i64 44032), .lit (.int .i64 55203), .lit (.int .i64 0)], .agg [.lit (.int .i64 55296), .lit (.int .i64 57343), .lit (.int .i64 0)]] []

/-- 'namedesklaw17.ValidHyphens': WHATEVER THE INPUT: true; the input reads as it did. -/
def validHyphensSpec : ChangeSpec := { name := "validHyphens", fn := fun _ => fun
  | [d] => { results := [.lit (.bool true)], args := [d] }
  | _ => none }
def validHyphensRow : OpenClaim := { program := "ytbdabjhankgcmaadoor", sum := "6b8c7e1364660c025fb46d3b0bb44c47a488965f1b8e6888bf24cc32e76cb901", func := "namedesk/namedesklaw17.ValidHyphens", spec := "validHyphens", unfollowed := true, recurses := true, named := ["namedesk/table.blocks"], plainKeys := false, apart := false, laid := [("namedesk/table.blocks", laid_namedesk_table_blocks)] }
def ValidHyphensSaid : Prop := validHyphensRow.holds Tryd.pinned (OpenSpec.ofChange validHyphensSpec)

/-- ITS FALSE NEIGHBOUR: 'it returns false'. Refute it at one input. -/
def validHyphensWrong : ChangeSpec := { name := "validHyphens", fn := fun _ => fun
  | [d] => { results := [.lit (.bool false)], args := [d] }
  | _ => none }
def ValidHyphensWrongFalsely : Prop := validHyphensRow.holds Tryd.pinned (OpenSpec.ofChange validHyphensWrong)

/-- 'namedesklaw17.ValidLetters': WHATEVER THE INPUT: true; the input reads as it did. -/
def validLettersSpec : ChangeSpec := { name := "validLetters", fn := fun _ => fun
  | [d1, d2] => { results := [.lit (.bool true)], args := [d1, d2] }
  | _ => none }
def validLettersRow : OpenClaim := { program := "ytbdabjhankgcmaadoor", sum := "6b8c7e1364660c025fb46d3b0bb44c47a488965f1b8e6888bf24cc32e76cb901", func := "namedesk/namedesklaw17.ValidLetters", spec := "validLetters", unfollowed := true, recurses := true, named := ["namedesk/table.blocks"], plainKeys := false, apart := false, laid := [("namedesk/table.blocks", laid_namedesk_table_blocks)] }
def ValidLettersSaid : Prop := validLettersRow.holds Tryd.pinned (OpenSpec.ofChange validLettersSpec)

/-- ITS FALSE NEIGHBOUR: 'it returns false'. Refute it at one input. -/
def validLettersWrong : ChangeSpec := { name := "validLetters", fn := fun _ => fun
  | [d1, d2] => { results := [.lit (.bool false)], args := [d1, d2] }
  | _ => none }
def ValidLettersWrongFalsely : Prop := validLettersRow.holds Tryd.pinned (OpenSpec.ofChange validLettersWrong)

/-- 'namedesklaw17.ValidOrder': WHATEVER THE INPUT: true; the input reads as it did. -/
def validOrderSpec : ChangeSpec := { name := "validOrder", fn := fun _ => fun
  | [d] => { results := [.lit (.bool true)], args := [d] }
  | _ => none }
def validOrderRow : OpenClaim := { program := "ytbdabjhankgcmaadoor", sum := "6b8c7e1364660c025fb46d3b0bb44c47a488965f1b8e6888bf24cc32e76cb901", func := "namedesk/namedesklaw17.ValidOrder", spec := "validOrder", unfollowed := true, recurses := true, named := ["namedesk/table.blocks"], plainKeys := false, apart := false, laid := [("namedesk/table.blocks", laid_namedesk_table_blocks)] }
def ValidOrderSaid : Prop := validOrderRow.holds Tryd.pinned (OpenSpec.ofChange validOrderSpec)

/-- ITS FALSE NEIGHBOUR: 'it returns false'. Refute it at one input. -/
def validOrderWrong : ChangeSpec := { name := "validOrder", fn := fun _ => fun
  | [d] => { results := [.lit (.bool false)], args := [d] }
  | _ => none }
def ValidOrderWrongFalsely : Prop := validOrderRow.holds Tryd.pinned (OpenSpec.ofChange validOrderWrong)

/- THE SECOND FORM. 'bulk': how many values and letters a reading holds, each counted each time it is reached (what is shared counts as often as it is met; a slice's spare places count too). A statement '..UptoSaid' is the law's where the arguments, and the package variables that the reading takes, are together of bulk at most 1048576: NARROWER than '..Said'. Prove '..Said' where nothing that the law and all that it calls make is longer than what came in: it says more and counts as full. Else prove '..UptoSaid'. A law counts once. -/
mutual
def uptoBulk {H : Type} : DataW H → Nat
  | .lit (.string bytes) => bytes.length + 1
  | .lit _ => 1
  | .nil => 1
  | .ptr d => uptoBulk d + 1
  | .slice elems spare => uptoBulkAll elems + uptoBulkAll spare + 1
  | .agg parts => uptoBulkAll parts + 1
  | .iface _ d => uptoBulk d + 1
  | .map entries => uptoBulkEntries entries + 1
  | .held _ => 1
def uptoBulkAll {H : Type} : List (DataW H) → Nat
  | [] => 0
  | d :: r => uptoBulk d + uptoBulkAll r
def uptoBulkEntries {H : Type} : List (Lit × DataW H) → Nat
  | [] => 0
  | x :: r => uptoBulkEntry x + uptoBulkEntries r
def uptoBulkEntry {H : Type} : Lit × DataW H → Nat
  | (.string bytes, d) => bytes.length + uptoBulk d + 1
  | (_, d) => uptoBulk d + 1
 end
def uptoSmall : (H : Type) → List (DataW H) → Bool := fun _ ds => decide (uptoBulkAll ds ≤ 1048576)
def OpenSpec.upto (s : _root_.Go.ChangeSpec) : _root_.Go.OpenSpec := { _root_.Go.OpenSpec.ofChange s with cond := some uptoSmall }

/-- 'namedesklaw17.ValidHyphens', WHERE WHAT IT READS IS OF BULK AT MOST 1048576: true; the input reads as it did. -/
def validHyphensUptoRow : OpenClaim := { program := "ytbdabjhankgcmaadoor", sum := "6b8c7e1364660c025fb46d3b0bb44c47a488965f1b8e6888bf24cc32e76cb901", func := "namedesk/namedesklaw17.ValidHyphens", spec := "validHyphens", unfollowed := true, recurses := true, named := ["namedesk/table.blocks"], plainKeys := false, apart := false, laid := [("namedesk/table.blocks", laid_namedesk_table_blocks)], narrowed := true }
def ValidHyphensUptoSaid : Prop := validHyphensUptoRow.holds Tryd.pinned (OpenSpec.upto validHyphensSpec)

/-- 'namedesklaw17.ValidLetters', WHERE WHAT IT READS IS OF BULK AT MOST 1048576: true; the input reads as it did. -/
def validLettersUptoRow : OpenClaim := { program := "ytbdabjhankgcmaadoor", sum := "6b8c7e1364660c025fb46d3b0bb44c47a488965f1b8e6888bf24cc32e76cb901", func := "namedesk/namedesklaw17.ValidLetters", spec := "validLetters", unfollowed := true, recurses := true, named := ["namedesk/table.blocks"], plainKeys := false, apart := false, laid := [("namedesk/table.blocks", laid_namedesk_table_blocks)], narrowed := true }
def ValidLettersUptoSaid : Prop := validLettersUptoRow.holds Tryd.pinned (OpenSpec.upto validLettersSpec)

/-- 'namedesklaw17.ValidOrder', WHERE WHAT IT READS IS OF BULK AT MOST 1048576: true; the input reads as it did. -/
def validOrderUptoRow : OpenClaim := { program := "ytbdabjhankgcmaadoor", sum := "6b8c7e1364660c025fb46d3b0bb44c47a488965f1b8e6888bf24cc32e76cb901", func := "namedesk/namedesklaw17.ValidOrder", spec := "validOrder", unfollowed := true, recurses := true, named := ["namedesk/table.blocks"], plainKeys := false, apart := false, laid := [("namedesk/table.blocks", laid_namedesk_table_blocks)], narrowed := true }
def ValidOrderUptoSaid : Prop := validOrderUptoRow.holds Tryd.pinned (OpenSpec.upto validOrderSpec)

end Rows
end Go.Proofs.YtbdabjhankgcmaaDoor
