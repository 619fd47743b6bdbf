/-
  NARROWER THAN 'FOR EVERY INPUT', by the rows' own cells (each row's printed sentence says how): JoinerVirama: laid · JoinerAutomaton: laid · JoinerNone: laid · ContextFree: laid · ContextTogether: laid · ContextDigits: laid · JoinerMirror: laid.
  DERIVED. THE GIVEN ROWS OF THIS SEAT. 7 by the template 'for every input the law returns true; each argument reads behind the call as it read before'; 0 by the template 'total and deterministic' (their statements: YtgfdecfcbnnemaaDoorTotals.lean).
  GIVEN WITH THE SEED: the statements are not yours to turn. If you find one false, say at which input.
  Laid BY PROGRAM, IN A SANDBOX (cutbox-rows.mjs): the forced cells as the released guide's own fill.sh prints them over the translation dabadfe13cb0be04… (all of the seat's roots in one cut). By AI agents, Wed Nov 11 2026. No macro, syntax, notation, axiom, sorry.
-/
import Derived.Test.YtgfdecfcbnnemaaDoorChecked
import GoSem.Claim
import GoSem.ClaimJoined
import GoSem.ClaimMapViews
import Derived.JoinedTies
import Derived.KernelRfl
namespace Go.Proofs.YtgfdecfcbnnemaaDoor
/- THE CELL 'sum', in the pinned program and in every row, IS THE sha256 OF THE DUMP (.gsa) THAT YtgfdecfcbnnemaaDoorProg.lean LOADS. Nothing in Lean hashes anything: it is a label: what it is worth is what the hold of that sum in a sandbox is worth. -/
noncomputable def Tryd.pinned : Pinned := { name := "ytgfdecfcbnnemaadoor", sum := "dabadfe13cb0be04cf0cf24ef72c3cd1f65b8ae019af301e8c7073a2cbb9ed4b", checked := Tryd.checked }
namespace Rows
def none {H : Type} : Left H := { results := [], args := [] }

/- WHAT THE LISTED PACKAGE-LEVEL VARIABLES READ AS WHEN THE CALL BEGINS. Each datum BY PROGRAM (the guide's laid-datum.mjs) off the statement by which the dump's own 'gosem.cut.vars' lays the variable. In a bare row this is a premise. The card (YtgfdecfcbnnemaaDoorCards.lean) ties it to the program's text. -/
def laid_namedesk_table_blocks {H : Type} : DataW H := .slice [.agg [.lit (.int .i64 0), .lit (.int .i64 127), .lit (.int .i64 0)], .agg [.lit (.int .i64 4352), .lit (.int .i64 4370), .lit (.int .i64 0)], .agg [.lit (.int .i64 4449), .lit (.int .i64 4469), .lit (.int .i64 0)], .agg [.lit (.int .i64 4520), .lit (.int .i64 4546), .lit (.int .i64 0)], .agg [.lit (.int .i64 44032), .lit (.int .i64 55203), .lit (.int .i64 0)], .agg [.lit (.int .i64 55296), .lit (.int .i64 57343), .lit (.int .i64 0)]] []

/-- 'namedesklaw14.JoinerVirama': WHATEVER THE INPUT: true; the input reads as it did. -/
def joinerViramaSpec : ChangeSpec := { name := "joinerVirama", fn := fun _ => fun
  | [d1, d2] => { results := [.lit (.bool true)], args := [d1, d2] }
  | _ => none }
def joinerViramaRow : OpenClaim := { program := "ytgfdecfcbnnemaadoor", sum := "dabadfe13cb0be04cf0cf24ef72c3cd1f65b8ae019af301e8c7073a2cbb9ed4b", func := "namedesk/namedesklaw14.JoinerVirama", spec := "joinerVirama", unfollowed := true, recurses := true, named := ["namedesk/table.blocks"], plainKeys := false, apart := false, laid := [("namedesk/table.blocks", laid_namedesk_table_blocks)] }
def JoinerViramaSaid : Prop := joinerViramaRow.holds Tryd.pinned (OpenSpec.ofChange joinerViramaSpec)

/-- ITS FALSE NEIGHBOUR: 'it returns false'. Refute it at one input. -/
def joinerViramaWrong : ChangeSpec := { name := "joinerVirama", fn := fun _ => fun
  | [d1, d2] => { results := [.lit (.bool false)], args := [d1, d2] }
  | _ => none }
def JoinerViramaWrongFalsely : Prop := joinerViramaRow.holds Tryd.pinned (OpenSpec.ofChange joinerViramaWrong)

/-- 'namedesklaw14.JoinerAutomaton': WHATEVER THE INPUT: true; the input reads as it did. -/
def joinerAutomatonSpec : ChangeSpec := { name := "joinerAutomaton", fn := fun _ => fun
  | [d1, d2] => { results := [.lit (.bool true)], args := [d1, d2] }
  | _ => none }
def joinerAutomatonRow : OpenClaim := { program := "ytgfdecfcbnnemaadoor", sum := "dabadfe13cb0be04cf0cf24ef72c3cd1f65b8ae019af301e8c7073a2cbb9ed4b", func := "namedesk/namedesklaw14.JoinerAutomaton", spec := "joinerAutomaton", unfollowed := true, recurses := true, named := ["namedesk/table.blocks"], plainKeys := false, apart := false, laid := [("namedesk/table.blocks", laid_namedesk_table_blocks)] }
def JoinerAutomatonSaid : Prop := joinerAutomatonRow.holds Tryd.pinned (OpenSpec.ofChange joinerAutomatonSpec)

/-- ITS FALSE NEIGHBOUR: 'it returns false'. Refute it at one input. -/
def joinerAutomatonWrong : ChangeSpec := { name := "joinerAutomaton", fn := fun _ => fun
  | [d1, d2] => { results := [.lit (.bool false)], args := [d1, d2] }
  | _ => none }
def JoinerAutomatonWrongFalsely : Prop := joinerAutomatonRow.holds Tryd.pinned (OpenSpec.ofChange joinerAutomatonWrong)

/-- 'namedesklaw14.JoinerNone': WHATEVER THE INPUT: true; the input reads as it did. -/
def joinerNoneSpec : ChangeSpec := { name := "joinerNone", fn := fun _ => fun
  | [d1, d2] => { results := [.lit (.bool true)], args := [d1, d2] }
  | _ => none }
def joinerNoneRow : OpenClaim := { program := "ytgfdecfcbnnemaadoor", sum := "dabadfe13cb0be04cf0cf24ef72c3cd1f65b8ae019af301e8c7073a2cbb9ed4b", func := "namedesk/namedesklaw14.JoinerNone", spec := "joinerNone", unfollowed := true, recurses := true, named := ["namedesk/table.blocks"], plainKeys := false, apart := false, laid := [("namedesk/table.blocks", laid_namedesk_table_blocks)] }
def JoinerNoneSaid : Prop := joinerNoneRow.holds Tryd.pinned (OpenSpec.ofChange joinerNoneSpec)

/-- ITS FALSE NEIGHBOUR: 'it returns false'. Refute it at one input. -/
def joinerNoneWrong : ChangeSpec := { name := "joinerNone", fn := fun _ => fun
  | [d1, d2] => { results := [.lit (.bool false)], args := [d1, d2] }
  | _ => none }
def JoinerNoneWrongFalsely : Prop := joinerNoneRow.holds Tryd.pinned (OpenSpec.ofChange joinerNoneWrong)

/-- 'namedesklaw15.ContextFree': WHATEVER THE INPUT: true; the input reads as it did. -/
def contextFreeSpec : ChangeSpec := { name := "contextFree", fn := fun _ => fun
  | [d1, d2] => { results := [.lit (.bool true)], args := [d1, d2] }
  | _ => none }
def contextFreeRow : OpenClaim := { program := "ytgfdecfcbnnemaadoor", sum := "dabadfe13cb0be04cf0cf24ef72c3cd1f65b8ae019af301e8c7073a2cbb9ed4b", func := "namedesk/namedesklaw15.ContextFree", spec := "contextFree", unfollowed := true, recurses := true, named := ["namedesk/table.blocks"], plainKeys := false, apart := false, laid := [("namedesk/table.blocks", laid_namedesk_table_blocks)] }
def ContextFreeSaid : Prop := contextFreeRow.holds Tryd.pinned (OpenSpec.ofChange contextFreeSpec)

/-- ITS FALSE NEIGHBOUR: 'it returns false'. Refute it at one input. -/
def contextFreeWrong : ChangeSpec := { name := "contextFree", fn := fun _ => fun
  | [d1, d2] => { results := [.lit (.bool false)], args := [d1, d2] }
  | _ => none }
def ContextFreeWrongFalsely : Prop := contextFreeRow.holds Tryd.pinned (OpenSpec.ofChange contextFreeWrong)

/-- 'namedesklaw15.ContextTogether': WHATEVER THE INPUT: true; the input reads as it did. -/
def contextTogetherSpec : ChangeSpec := { name := "contextTogether", fn := fun _ => fun
  | [d1, d2, d3] => { results := [.lit (.bool true)], args := [d1, d2, d3] }
  | _ => none }
def contextTogetherRow : OpenClaim := { program := "ytgfdecfcbnnemaadoor", sum := "dabadfe13cb0be04cf0cf24ef72c3cd1f65b8ae019af301e8c7073a2cbb9ed4b", func := "namedesk/namedesklaw15.ContextTogether", spec := "contextTogether", unfollowed := true, recurses := true, named := ["namedesk/table.blocks"], plainKeys := false, apart := false, laid := [("namedesk/table.blocks", laid_namedesk_table_blocks)] }
def ContextTogetherSaid : Prop := contextTogetherRow.holds Tryd.pinned (OpenSpec.ofChange contextTogetherSpec)

/-- ITS FALSE NEIGHBOUR: 'it returns false'. Refute it at one input. -/
def contextTogetherWrong : ChangeSpec := { name := "contextTogether", fn := fun _ => fun
  | [d1, d2, d3] => { results := [.lit (.bool false)], args := [d1, d2, d3] }
  | _ => none }
def ContextTogetherWrongFalsely : Prop := contextTogetherRow.holds Tryd.pinned (OpenSpec.ofChange contextTogetherWrong)

/-- 'namedesklaw15.ContextDigits': WHATEVER THE INPUT: true; the input reads as it did. -/
def contextDigitsSpec : ChangeSpec := { name := "contextDigits", fn := fun _ => fun
  | [d1, d2] => { results := [.lit (.bool true)], args := [d1, d2] }
  | _ => none }
def contextDigitsRow : OpenClaim := { program := "ytgfdecfcbnnemaadoor", sum := "dabadfe13cb0be04cf0cf24ef72c3cd1f65b8ae019af301e8c7073a2cbb9ed4b", func := "namedesk/namedesklaw15.ContextDigits", spec := "contextDigits", unfollowed := true, recurses := true, named := ["namedesk/table.blocks"], plainKeys := false, apart := false, laid := [("namedesk/table.blocks", laid_namedesk_table_blocks)] }
def ContextDigitsSaid : Prop := contextDigitsRow.holds Tryd.pinned (OpenSpec.ofChange contextDigitsSpec)

/-- ITS FALSE NEIGHBOUR: 'it returns false'. Refute it at one input. -/
def contextDigitsWrong : ChangeSpec := { name := "contextDigits", fn := fun _ => fun
  | [d1, d2] => { results := [.lit (.bool false)], args := [d1, d2] }
  | _ => none }
def ContextDigitsWrongFalsely : Prop := contextDigitsRow.holds Tryd.pinned (OpenSpec.ofChange contextDigitsWrong)

/-- 'namedesklaw14.JoinerMirror': WHATEVER THE INPUT: true; the input reads as it did. -/
def joinerMirrorSpec : ChangeSpec := { name := "joinerMirror", fn := fun _ => fun
  | [d1, d2, d3] => { results := [.lit (.bool true)], args := [d1, d2, d3] }
  | _ => none }
def joinerMirrorRow : OpenClaim := { program := "ytgfdecfcbnnemaadoor", sum := "dabadfe13cb0be04cf0cf24ef72c3cd1f65b8ae019af301e8c7073a2cbb9ed4b", func := "namedesk/namedesklaw14.JoinerMirror", spec := "joinerMirror", unfollowed := true, recurses := true, named := ["namedesk/table.blocks"], plainKeys := false, apart := false, laid := [("namedesk/table.blocks", laid_namedesk_table_blocks)] }
def JoinerMirrorSaid : Prop := joinerMirrorRow.holds Tryd.pinned (OpenSpec.ofChange joinerMirrorSpec)

/-- ITS FALSE NEIGHBOUR: 'it returns false'. Refute it at one input. -/
def joinerMirrorWrong : ChangeSpec := { name := "joinerMirror", fn := fun _ => fun
  | [d1, d2, d3] => { results := [.lit (.bool false)], args := [d1, d2, d3] }
  | _ => none }
def JoinerMirrorWrongFalsely : Prop := joinerMirrorRow.holds Tryd.pinned (OpenSpec.ofChange joinerMirrorWrong)

/- THE SECOND FORM. 'bulk': how many values and letters a reading holds, each counted each time it is reached (what is shared counts as often as it is met; a slice's spare places count too). A statement '..UptoSaid' is the law's where the arguments, and the package variables that the reading takes, are together of bulk at most 1048576: NARROWER than '..Said'. Prove '..Said' where nothing that the law and all that it calls make is longer than what came in: it says more and counts as full. Else prove '..UptoSaid'. A law counts once. -/
mutual
def uptoBulk {H : Type} : DataW H → Nat
  | .lit (.string bytes) => bytes.length + 1
  | .lit _ => 1
  | .nil => 1
  | .ptr d => uptoBulk d + 1
  | .slice elems spare => uptoBulkAll elems + uptoBulkAll spare + 1
  | .agg parts => uptoBulkAll parts + 1
  | .iface _ d => uptoBulk d + 1
  | .map entries => uptoBulkEntries entries + 1
  | .held _ => 1
def uptoBulkAll {H : Type} : List (DataW H) → Nat
  | [] => 0
  | d :: r => uptoBulk d + uptoBulkAll r
def uptoBulkEntries {H : Type} : List (Lit × DataW H) → Nat
  | [] => 0
  | x :: r => uptoBulkEntry x + uptoBulkEntries r
def uptoBulkEntry {H : Type} : Lit × DataW H → Nat
  | (.string bytes, d) => bytes.length + uptoBulk d + 1
  | (_, d) => uptoBulk d + 1
 end
def uptoSmall : (H : Type) → List (DataW H) → Bool := fun _ ds => decide (uptoBulkAll ds ≤ 1048576)
def OpenSpec.upto (s : _root_.Go.ChangeSpec) : _root_.Go.OpenSpec := { _root_.Go.OpenSpec.ofChange s with cond := some uptoSmall }

/-- 'namedesklaw14.JoinerVirama', WHERE WHAT IT READS IS OF BULK AT MOST 1048576: true; the input reads as it did. -/
def joinerViramaUptoRow : OpenClaim := { program := "ytgfdecfcbnnemaadoor", sum := "dabadfe13cb0be04cf0cf24ef72c3cd1f65b8ae019af301e8c7073a2cbb9ed4b", func := "namedesk/namedesklaw14.JoinerVirama", spec := "joinerVirama", unfollowed := true, recurses := true, named := ["namedesk/table.blocks"], plainKeys := false, apart := false, laid := [("namedesk/table.blocks", laid_namedesk_table_blocks)], narrowed := true }
def JoinerViramaUptoSaid : Prop := joinerViramaUptoRow.holds Tryd.pinned (OpenSpec.upto joinerViramaSpec)

/-- 'namedesklaw14.JoinerAutomaton', WHERE WHAT IT READS IS OF BULK AT MOST 1048576: true; the input reads as it did. -/
def joinerAutomatonUptoRow : OpenClaim := { program := "ytgfdecfcbnnemaadoor", sum := "dabadfe13cb0be04cf0cf24ef72c3cd1f65b8ae019af301e8c7073a2cbb9ed4b", func := "namedesk/namedesklaw14.JoinerAutomaton", spec := "joinerAutomaton", unfollowed := true, recurses := true, named := ["namedesk/table.blocks"], plainKeys := false, apart := false, laid := [("namedesk/table.blocks", laid_namedesk_table_blocks)], narrowed := true }
def JoinerAutomatonUptoSaid : Prop := joinerAutomatonUptoRow.holds Tryd.pinned (OpenSpec.upto joinerAutomatonSpec)

/-- 'namedesklaw14.JoinerNone', WHERE WHAT IT READS IS OF BULK AT MOST 1048576: true; the input reads as it did. -/
def joinerNoneUptoRow : OpenClaim := { program := "ytgfdecfcbnnemaadoor", sum := "dabadfe13cb0be04cf0cf24ef72c3cd1f65b8ae019af301e8c7073a2cbb9ed4b", func := "namedesk/namedesklaw14.JoinerNone", spec := "joinerNone", unfollowed := true, recurses := true, named := ["namedesk/table.blocks"], plainKeys := false, apart := false, laid := [("namedesk/table.blocks", laid_namedesk_table_blocks)], narrowed := true }
def JoinerNoneUptoSaid : Prop := joinerNoneUptoRow.holds Tryd.pinned (OpenSpec.upto joinerNoneSpec)

/-- 'namedesklaw15.ContextFree', WHERE WHAT IT READS IS OF BULK AT MOST 1048576: true; the input reads as it did. -/
def contextFreeUptoRow : OpenClaim := { program := "ytgfdecfcbnnemaadoor", sum := "dabadfe13cb0be04cf0cf24ef72c3cd1f65b8ae019af301e8c7073a2cbb9ed4b", func := "namedesk/namedesklaw15.ContextFree", spec := "contextFree", unfollowed := true, recurses := true, named := ["namedesk/table.blocks"], plainKeys := false, apart := false, laid := [("namedesk/table.blocks", laid_namedesk_table_blocks)], narrowed := true }
def ContextFreeUptoSaid : Prop := contextFreeUptoRow.holds Tryd.pinned (OpenSpec.upto contextFreeSpec)

/-- 'namedesklaw15.ContextTogether', WHERE WHAT IT READS IS OF BULK AT MOST 1048576: true; the input reads as it did. -/
def contextTogetherUptoRow : OpenClaim := { program := "ytgfdecfcbnnemaadoor", sum := "dabadfe13cb0be04cf0cf24ef72c3cd1f65b8ae019af301e8c7073a2cbb9ed4b", func := "namedesk/namedesklaw15.ContextTogether", spec := "contextTogether", unfollowed := true, recurses := true, named := ["namedesk/table.blocks"], plainKeys := false, apart := false, laid := [("namedesk/table.blocks", laid_namedesk_table_blocks)], narrowed := true }
def ContextTogetherUptoSaid : Prop := contextTogetherUptoRow.holds Tryd.pinned (OpenSpec.upto contextTogetherSpec)

/-- 'namedesklaw15.ContextDigits', WHERE WHAT IT READS IS OF BULK AT MOST 1048576: true; the input reads as it did. -/
def contextDigitsUptoRow : OpenClaim := { program := "ytgfdecfcbnnemaadoor", sum := "dabadfe13cb0be04cf0cf24ef72c3cd1f65b8ae019af301e8c7073a2cbb9ed4b", func := "namedesk/namedesklaw15.ContextDigits", spec := "contextDigits", unfollowed := true, recurses := true, named := ["namedesk/table.blocks"], plainKeys := false, apart := false, laid := [("namedesk/table.blocks", laid_namedesk_table_blocks)], narrowed := true }
def ContextDigitsUptoSaid : Prop := contextDigitsUptoRow.holds Tryd.pinned (OpenSpec.upto contextDigitsSpec)

/-- 'namedesklaw14.JoinerMirror', WHERE WHAT IT READS IS OF BULK AT MOST 1048576: true; the input reads as it did. -/
def joinerMirrorUptoRow : OpenClaim := { program := "ytgfdecfcbnnemaadoor", sum := "dabadfe13cb0be04cf0cf24ef72c3cd1f65b8ae019af301e8c7073a2cbb9ed4b", func := "namedesk/namedesklaw14.JoinerMirror", spec := "joinerMirror", unfollowed := true, recurses := true, named := ["namedesk/table.blocks"], plainKeys := false, apart := false, laid := [("namedesk/table.blocks", laid_namedesk_table_blocks)], narrowed := true }
def JoinerMirrorUptoSaid : Prop := joinerMirrorUptoRow.holds Tryd.pinned (OpenSpec.upto joinerMirrorSpec)

end Rows
end Go.Proofs.YtgfdecfcbnnemaaDoor
