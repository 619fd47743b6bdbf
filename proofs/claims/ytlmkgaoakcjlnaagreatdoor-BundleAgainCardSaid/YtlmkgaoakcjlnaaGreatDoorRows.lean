/-
  NARROWER THAN 'FOR EVERY INPUT', by the rows' own cells (each row's printed sentence says how): BundleCanon: laid · BundleMake: laid · BundleAgain: laid · BundleOrder: laid · BundleTwins: laid · BundleFind: laid · AuditWaits: laid · AuditAscending: laid.
  DERIVED. THE GIVEN ROWS OF THIS SEAT. 8 by the template 'for every input the law returns true; each argument reads behind the call as it read before'; 0 by the template 'total and deterministic' (their statements: YtlmkgaoakcjlnaaGreatDoorTotals.lean).
  GIVEN WITH THE SEED: the statements are not yours to turn. If you find one false, say at which input.
  Laid BY PROGRAM, IN A SANDBOX (cutbox-rows.mjs): the forced cells as the released guide's own fill.sh prints them over the translation d7cee91d07933c5d… (all of the seat's roots in one cut). By AI agents, Wed Nov 11 2026. No macro, syntax, notation, axiom, sorry.
-/
import Derived.Test.YtlmkgaoakcjlnaaGreatDoorChecked
import GoSem.Claim
import GoSem.ClaimJoined
import GoSem.ClaimMapViews
import Derived.JoinedTies
import Derived.KernelRfl
namespace Go.Proofs.YtlmkgaoakcjlnaaGreatDoor
/- THE CELL 'sum', in the pinned program and in every row, IS THE sha256 OF THE DUMP (.gsa) THAT YtlmkgaoakcjlnaaGreatDoorProg.lean LOADS. Nothing in Lean hashes anything: it is a label: what it is worth is what the hold of that sum in a sandbox is worth. -/
noncomputable def Tryz.pinned : Pinned := { name := "ytlmkgaoakcjlnaagreatdoor", sum := "d7cee91d07933c5d311fc923f1598676a29307a001f86e3acb44d4f0eebf91c2", checked := Tryz.checked }
namespace Rows
def none {H : Type} : Left H := { results := [], args := [] }

/- WHAT THE LISTED PACKAGE-LEVEL VARIABLES READ AS WHEN THE CALL BEGINS. Each datum BY PROGRAM (the guide's laid-datum.mjs) off the statement by which the dump's own 'gosem.cut.vars' lays the variable. In a bare row this is a premise. The card (YtlmkgaoakcjlnaaGreatDoorCards.lean) ties it to the program's text. -/
def laid_namedesk_table_blocks {H : Type} : DataW H := .slice [.agg [.lit (.int .i64 0), .lit (.int .i64 127), .lit (.int .i64 0)], .agg [.lit (.int .i64 4352), .lit (.int .i64 4370), .lit (.int .i64 0)], .agg [.lit (.int .i64 4449), .lit (.int .i64 4469), .lit (.int .i64 0)], .agg [.lit (.int .i64 4520), .lit (.int .i64 4546), .lit (.int .i64 0)], .agg [.lit (.int .i64 44032), .lit (.int .i64 55203), .lit (.int .i64 0)], .agg [.lit (.int .i64 55296), .lit (.int .i64 57343), .lit (.int .i64 0)]] []

/-- 'namedesklaw22.BundleCanon': WHATEVER THE INPUT: true; the input reads as it did. -/
def bundleCanonSpec : ChangeSpec := { name := "bundleCanon", fn := fun _ => fun
  | [d1, d2, d3] => { results := [.lit (.bool true)], args := [d1, d2, d3] }
  | _ => none }
def bundleCanonRow : OpenClaim := { program := "ytlmkgaoakcjlnaagreatdoor", sum := "d7cee91d07933c5d311fc923f1598676a29307a001f86e3acb44d4f0eebf91c2", func := "namedesk/namedesklaw22.BundleCanon", spec := "bundleCanon", inPlace := ["slices.overlaps[int]", "internal/abi.NoEscape", "internal/bytealg.MakeNoZero", "slices.overlaps[namedesk/api.Name]"], unfollowed := true, recurses := true, named := ["namedesk/table.blocks"], plainKeys := false, apart := false, laid := [("namedesk/table.blocks", laid_namedesk_table_blocks)] }
def BundleCanonSaid : Prop := bundleCanonRow.holds Tryz.pinned (OpenSpec.ofChange bundleCanonSpec)

/-- ITS FALSE NEIGHBOUR: 'it returns false'. Refute it at one input. -/
def bundleCanonWrong : ChangeSpec := { name := "bundleCanon", fn := fun _ => fun
  | [d1, d2, d3] => { results := [.lit (.bool false)], args := [d1, d2, d3] }
  | _ => none }
def BundleCanonWrongFalsely : Prop := bundleCanonRow.holds Tryz.pinned (OpenSpec.ofChange bundleCanonWrong)

/-- 'namedesklaw22.BundleMake': WHATEVER THE INPUT: true; the input reads as it did. -/
def bundleMakeSpec : ChangeSpec := { name := "bundleMake", fn := fun _ => fun
  | [d1, d2, d3] => { results := [.lit (.bool true)], args := [d1, d2, d3] }
  | _ => none }
def bundleMakeRow : OpenClaim := { program := "ytlmkgaoakcjlnaagreatdoor", sum := "d7cee91d07933c5d311fc923f1598676a29307a001f86e3acb44d4f0eebf91c2", func := "namedesk/namedesklaw22.BundleMake", spec := "bundleMake", inPlace := ["slices.overlaps[int]", "internal/abi.NoEscape", "internal/bytealg.MakeNoZero", "slices.overlaps[namedesk/api.Name]"], unfollowed := true, recurses := true, named := ["namedesk/table.blocks"], plainKeys := false, apart := false, laid := [("namedesk/table.blocks", laid_namedesk_table_blocks)] }
def BundleMakeSaid : Prop := bundleMakeRow.holds Tryz.pinned (OpenSpec.ofChange bundleMakeSpec)

/-- ITS FALSE NEIGHBOUR: 'it returns false'. Refute it at one input. -/
def bundleMakeWrong : ChangeSpec := { name := "bundleMake", fn := fun _ => fun
  | [d1, d2, d3] => { results := [.lit (.bool false)], args := [d1, d2, d3] }
  | _ => none }
def BundleMakeWrongFalsely : Prop := bundleMakeRow.holds Tryz.pinned (OpenSpec.ofChange bundleMakeWrong)

/-- 'namedesklaw22.BundleAgain': WHATEVER THE INPUT: true; the input reads as it did. -/
def bundleAgainSpec : ChangeSpec := { name := "bundleAgain", fn := fun _ => fun
  | [d1, d2] => { results := [.lit (.bool true)], args := [d1, d2] }
  | _ => none }
def bundleAgainRow : OpenClaim := { program := "ytlmkgaoakcjlnaagreatdoor", sum := "d7cee91d07933c5d311fc923f1598676a29307a001f86e3acb44d4f0eebf91c2", func := "namedesk/namedesklaw22.BundleAgain", spec := "bundleAgain", inPlace := ["slices.overlaps[int]", "internal/abi.NoEscape", "internal/bytealg.MakeNoZero", "slices.overlaps[namedesk/api.Name]"], unfollowed := true, recurses := true, named := ["namedesk/table.blocks"], plainKeys := false, apart := false, laid := [("namedesk/table.blocks", laid_namedesk_table_blocks)] }
def BundleAgainSaid : Prop := bundleAgainRow.holds Tryz.pinned (OpenSpec.ofChange bundleAgainSpec)

/-- ITS FALSE NEIGHBOUR: 'it returns false'. Refute it at one input. -/
def bundleAgainWrong : ChangeSpec := { name := "bundleAgain", fn := fun _ => fun
  | [d1, d2] => { results := [.lit (.bool false)], args := [d1, d2] }
  | _ => none }
def BundleAgainWrongFalsely : Prop := bundleAgainRow.holds Tryz.pinned (OpenSpec.ofChange bundleAgainWrong)

/-- 'namedesklaw22.BundleOrder': WHATEVER THE INPUT: true; the input reads as it did. -/
def bundleOrderSpec : ChangeSpec := { name := "bundleOrder", fn := fun _ => fun
  | [d1, d2, d3] => { results := [.lit (.bool true)], args := [d1, d2, d3] }
  | _ => none }
def bundleOrderRow : OpenClaim := { program := "ytlmkgaoakcjlnaagreatdoor", sum := "d7cee91d07933c5d311fc923f1598676a29307a001f86e3acb44d4f0eebf91c2", func := "namedesk/namedesklaw22.BundleOrder", spec := "bundleOrder", inPlace := ["slices.overlaps[int]", "internal/abi.NoEscape", "internal/bytealg.MakeNoZero", "slices.overlaps[namedesk/api.Name]"], unfollowed := true, recurses := true, named := ["namedesk/table.blocks"], plainKeys := false, apart := false, laid := [("namedesk/table.blocks", laid_namedesk_table_blocks)] }
def BundleOrderSaid : Prop := bundleOrderRow.holds Tryz.pinned (OpenSpec.ofChange bundleOrderSpec)

/-- ITS FALSE NEIGHBOUR: 'it returns false'. Refute it at one input. -/
def bundleOrderWrong : ChangeSpec := { name := "bundleOrder", fn := fun _ => fun
  | [d1, d2, d3] => { results := [.lit (.bool false)], args := [d1, d2, d3] }
  | _ => none }
def BundleOrderWrongFalsely : Prop := bundleOrderRow.holds Tryz.pinned (OpenSpec.ofChange bundleOrderWrong)

/-- 'namedesklaw22.BundleTwins': WHATEVER THE INPUT: true; the input reads as it did. -/
def bundleTwinsSpec : ChangeSpec := { name := "bundleTwins", fn := fun _ => fun
  | [d1, d2] => { results := [.lit (.bool true)], args := [d1, d2] }
  | _ => none }
def bundleTwinsRow : OpenClaim := { program := "ytlmkgaoakcjlnaagreatdoor", sum := "d7cee91d07933c5d311fc923f1598676a29307a001f86e3acb44d4f0eebf91c2", func := "namedesk/namedesklaw22.BundleTwins", spec := "bundleTwins", inPlace := ["slices.overlaps[int]", "internal/abi.NoEscape", "internal/bytealg.MakeNoZero", "slices.overlaps[namedesk/api.Name]"], unfollowed := true, recurses := true, named := ["namedesk/table.blocks"], plainKeys := false, apart := false, laid := [("namedesk/table.blocks", laid_namedesk_table_blocks)] }
def BundleTwinsSaid : Prop := bundleTwinsRow.holds Tryz.pinned (OpenSpec.ofChange bundleTwinsSpec)

/-- ITS FALSE NEIGHBOUR: 'it returns false'. Refute it at one input. -/
def bundleTwinsWrong : ChangeSpec := { name := "bundleTwins", fn := fun _ => fun
  | [d1, d2] => { results := [.lit (.bool false)], args := [d1, d2] }
  | _ => none }
def BundleTwinsWrongFalsely : Prop := bundleTwinsRow.holds Tryz.pinned (OpenSpec.ofChange bundleTwinsWrong)

/-- 'namedesklaw22.BundleFind': WHATEVER THE INPUT: true; the input reads as it did. -/
def bundleFindSpec : ChangeSpec := { name := "bundleFind", fn := fun _ => fun
  | [d1, d2, d3, d4] => { results := [.lit (.bool true)], args := [d1, d2, d3, d4] }
  | _ => none }
def bundleFindRow : OpenClaim := { program := "ytlmkgaoakcjlnaagreatdoor", sum := "d7cee91d07933c5d311fc923f1598676a29307a001f86e3acb44d4f0eebf91c2", func := "namedesk/namedesklaw22.BundleFind", spec := "bundleFind", inPlace := ["slices.overlaps[int]", "internal/abi.NoEscape", "internal/bytealg.MakeNoZero", "slices.overlaps[namedesk/api.Name]"], unfollowed := true, recurses := true, named := ["namedesk/table.blocks"], plainKeys := false, apart := false, laid := [("namedesk/table.blocks", laid_namedesk_table_blocks)] }
def BundleFindSaid : Prop := bundleFindRow.holds Tryz.pinned (OpenSpec.ofChange bundleFindSpec)

/-- ITS FALSE NEIGHBOUR: 'it returns false'. Refute it at one input. -/
def bundleFindWrong : ChangeSpec := { name := "bundleFind", fn := fun _ => fun
  | [d1, d2, d3, d4] => { results := [.lit (.bool false)], args := [d1, d2, d3, d4] }
  | _ => none }
def BundleFindWrongFalsely : Prop := bundleFindRow.holds Tryz.pinned (OpenSpec.ofChange bundleFindWrong)

/-- 'namedesklaw34.AuditWaits': WHATEVER THE INPUT: true; the input reads as it did. -/
def auditWaitsSpec : ChangeSpec := { name := "auditWaits", fn := fun _ => fun
  | [d1, d2, d3, d4] => { results := [.lit (.bool true)], args := [d1, d2, d3, d4] }
  | _ => none }
def auditWaitsRow : OpenClaim := { program := "ytlmkgaoakcjlnaagreatdoor", sum := "d7cee91d07933c5d311fc923f1598676a29307a001f86e3acb44d4f0eebf91c2", func := "namedesk/namedesklaw34.AuditWaits", spec := "auditWaits", inPlace := ["slices.overlaps[int]", "internal/abi.NoEscape", "internal/bytealg.MakeNoZero"], unfollowed := true, recurses := true, named := ["namedesk/table.blocks"], plainKeys := false, apart := false, laid := [("namedesk/table.blocks", laid_namedesk_table_blocks)] }
def AuditWaitsSaid : Prop := auditWaitsRow.holds Tryz.pinned (OpenSpec.ofChange auditWaitsSpec)

/-- ITS FALSE NEIGHBOUR: 'it returns false'. Refute it at one input. -/
def auditWaitsWrong : ChangeSpec := { name := "auditWaits", fn := fun _ => fun
  | [d1, d2, d3, d4] => { results := [.lit (.bool false)], args := [d1, d2, d3, d4] }
  | _ => none }
def AuditWaitsWrongFalsely : Prop := auditWaitsRow.holds Tryz.pinned (OpenSpec.ofChange auditWaitsWrong)

/-- 'namedesklaw34.AuditAscending': WHATEVER THE INPUT: true; the input reads as it did. -/
def auditAscendingSpec : ChangeSpec := { name := "auditAscending", fn := fun _ => fun
  | [d] => { results := [.lit (.bool true)], args := [d] }
  | _ => none }
def auditAscendingRow : OpenClaim := { program := "ytlmkgaoakcjlnaagreatdoor", sum := "d7cee91d07933c5d311fc923f1598676a29307a001f86e3acb44d4f0eebf91c2", func := "namedesk/namedesklaw34.AuditAscending", spec := "auditAscending", inPlace := ["slices.overlaps[int]", "internal/abi.NoEscape", "internal/bytealg.MakeNoZero"], unfollowed := true, recurses := true, named := ["namedesk/table.blocks"], plainKeys := false, apart := false, laid := [("namedesk/table.blocks", laid_namedesk_table_blocks)] }
def AuditAscendingSaid : Prop := auditAscendingRow.holds Tryz.pinned (OpenSpec.ofChange auditAscendingSpec)

/-- ITS FALSE NEIGHBOUR: 'it returns false'. Refute it at one input. -/
def auditAscendingWrong : ChangeSpec := { name := "auditAscending", fn := fun _ => fun
  | [d] => { results := [.lit (.bool false)], args := [d] }
  | _ => none }
def AuditAscendingWrongFalsely : Prop := auditAscendingRow.holds Tryz.pinned (OpenSpec.ofChange auditAscendingWrong)

/- THE SECOND FORM. 'bulk': how many values and letters a reading holds, each counted each time it is reached (what is shared counts as often as it is met; a slice's spare places count too). A statement '..UptoSaid' is the law's where the arguments, and the package variables that the reading takes, are together of bulk at most 1048576: NARROWER than '..Said'. Prove '..Said' where nothing that the law and all that it calls make is longer than what came in: it says more and counts as full. Else prove '..UptoSaid'. A law counts once. -/
mutual
def uptoBulk {H : Type} : DataW H → Nat
  | .lit (.string bytes) => bytes.length + 1
  | .lit _ => 1
  | .nil => 1
  | .ptr d => uptoBulk d + 1
  | .slice elems spare => uptoBulkAll elems + uptoBulkAll spare + 1
  | .agg parts => uptoBulkAll parts + 1
  | .iface _ d => uptoBulk d + 1
  | .map entries => uptoBulkEntries entries + 1
  | .held _ => 1
def uptoBulkAll {H : Type} : List (DataW H) → Nat
  | [] => 0
  | d :: r => uptoBulk d + uptoBulkAll r
def uptoBulkEntries {H : Type} : List (Lit × DataW H) → Nat
  | [] => 0
  | x :: r => uptoBulkEntry x + uptoBulkEntries r
def uptoBulkEntry {H : Type} : Lit × DataW H → Nat
  | (.string bytes, d) => bytes.length + uptoBulk d + 1
  | (_, d) => uptoBulk d + 1
 end
def uptoSmall : (H : Type) → List (DataW H) → Bool := fun _ ds => decide (uptoBulkAll ds ≤ 1048576)
def OpenSpec.upto (s : _root_.Go.ChangeSpec) : _root_.Go.OpenSpec := { _root_.Go.OpenSpec.ofChange s with cond := some uptoSmall }

/-- 'namedesklaw22.BundleCanon', WHERE WHAT IT READS IS OF BULK AT MOST 1048576: true; the input reads as it did. -/
def bundleCanonUptoRow : OpenClaim := { program := "ytlmkgaoakcjlnaagreatdoor", sum := "d7cee91d07933c5d311fc923f1598676a29307a001f86e3acb44d4f0eebf91c2", func := "namedesk/namedesklaw22.BundleCanon", spec := "bundleCanon", inPlace := ["slices.overlaps[int]", "internal/abi.NoEscape", "internal/bytealg.MakeNoZero", "slices.overlaps[namedesk/api.Name]"], unfollowed := true, recurses := true, named := ["namedesk/table.blocks"], plainKeys := false, apart := false, laid := [("namedesk/table.blocks", laid_namedesk_table_blocks)], narrowed := true }
def BundleCanonUptoSaid : Prop := bundleCanonUptoRow.holds Tryz.pinned (OpenSpec.upto bundleCanonSpec)

/-- 'namedesklaw22.BundleMake', WHERE WHAT IT READS IS OF BULK AT MOST 1048576: true; the input reads as it did. -/
def bundleMakeUptoRow : OpenClaim := { program := "ytlmkgaoakcjlnaagreatdoor", sum := "d7cee91d07933c5d311fc923f1598676a29307a001f86e3acb44d4f0eebf91c2", func := "namedesk/namedesklaw22.BundleMake", spec := "bundleMake", inPlace := ["slices.overlaps[int]", "internal/abi.NoEscape", "internal/bytealg.MakeNoZero", "slices.overlaps[namedesk/api.Name]"], unfollowed := true, recurses := true, named := ["namedesk/table.blocks"], plainKeys := false, apart := false, laid := [("namedesk/table.blocks", laid_namedesk_table_blocks)], narrowed := true }
def BundleMakeUptoSaid : Prop := bundleMakeUptoRow.holds Tryz.pinned (OpenSpec.upto bundleMakeSpec)

/-- 'namedesklaw22.BundleAgain', WHERE WHAT IT READS IS OF BULK AT MOST 1048576: true; the input reads as it did. -/
def bundleAgainUptoRow : OpenClaim := { program := "ytlmkgaoakcjlnaagreatdoor", sum := "d7cee91d07933c5d311fc923f1598676a29307a001f86e3acb44d4f0eebf91c2", func := "namedesk/namedesklaw22.BundleAgain", spec := "bundleAgain", inPlace := ["slices.overlaps[int]", "internal/abi.NoEscape", "internal/bytealg.MakeNoZero", "slices.overlaps[namedesk/api.Name]"], unfollowed := true, recurses := true, named := ["namedesk/table.blocks"], plainKeys := false, apart := false, laid := [("namedesk/table.blocks", laid_namedesk_table_blocks)], narrowed := true }
def BundleAgainUptoSaid : Prop := bundleAgainUptoRow.holds Tryz.pinned (OpenSpec.upto bundleAgainSpec)

/-- 'namedesklaw22.BundleOrder', WHERE WHAT IT READS IS OF BULK AT MOST 1048576: true; the input reads as it did. -/
def bundleOrderUptoRow : OpenClaim := { program := "ytlmkgaoakcjlnaagreatdoor", sum := "d7cee91d07933c5d311fc923f1598676a29307a001f86e3acb44d4f0eebf91c2", func := "namedesk/namedesklaw22.BundleOrder", spec := "bundleOrder", inPlace := ["slices.overlaps[int]", "internal/abi.NoEscape", "internal/bytealg.MakeNoZero", "slices.overlaps[namedesk/api.Name]"], unfollowed := true, recurses := true, named := ["namedesk/table.blocks"], plainKeys := false, apart := false, laid := [("namedesk/table.blocks", laid_namedesk_table_blocks)], narrowed := true }
def BundleOrderUptoSaid : Prop := bundleOrderUptoRow.holds Tryz.pinned (OpenSpec.upto bundleOrderSpec)

/-- 'namedesklaw22.BundleTwins', WHERE WHAT IT READS IS OF BULK AT MOST 1048576: true; the input reads as it did. -/
def bundleTwinsUptoRow : OpenClaim := { program := "ytlmkgaoakcjlnaagreatdoor", sum := "d7cee91d07933c5d311fc923f1598676a29307a001f86e3acb44d4f0eebf91c2", func := "namedesk/namedesklaw22.BundleTwins", spec := "bundleTwins", inPlace := ["slices.overlaps[int]", "internal/abi.NoEscape", "internal/bytealg.MakeNoZero", "slices.overlaps[namedesk/api.Name]"], unfollowed := true, recurses := true, named := ["namedesk/table.blocks"], plainKeys := false, apart := false, laid := [("namedesk/table.blocks", laid_namedesk_table_blocks)], narrowed := true }
def BundleTwinsUptoSaid : Prop := bundleTwinsUptoRow.holds Tryz.pinned (OpenSpec.upto bundleTwinsSpec)

/-- 'namedesklaw22.BundleFind', WHERE WHAT IT READS IS OF BULK AT MOST 1048576: true; the input reads as it did. -/
def bundleFindUptoRow : OpenClaim := { program := "ytlmkgaoakcjlnaagreatdoor", sum := "d7cee91d07933c5d311fc923f1598676a29307a001f86e3acb44d4f0eebf91c2", func := "namedesk/namedesklaw22.BundleFind", spec := "bundleFind", inPlace := ["slices.overlaps[int]", "internal/abi.NoEscape", "internal/bytealg.MakeNoZero", "slices.overlaps[namedesk/api.Name]"], unfollowed := true, recurses := true, named := ["namedesk/table.blocks"], plainKeys := false, apart := false, laid := [("namedesk/table.blocks", laid_namedesk_table_blocks)], narrowed := true }
def BundleFindUptoSaid : Prop := bundleFindUptoRow.holds Tryz.pinned (OpenSpec.upto bundleFindSpec)

/-- 'namedesklaw34.AuditWaits', WHERE WHAT IT READS IS OF BULK AT MOST 1048576: true; the input reads as it did. -/
def auditWaitsUptoRow : OpenClaim := { program := "ytlmkgaoakcjlnaagreatdoor", sum := "d7cee91d07933c5d311fc923f1598676a29307a001f86e3acb44d4f0eebf91c2", func := "namedesk/namedesklaw34.AuditWaits", spec := "auditWaits", inPlace := ["slices.overlaps[int]", "internal/abi.NoEscape", "internal/bytealg.MakeNoZero"], unfollowed := true, recurses := true, named := ["namedesk/table.blocks"], plainKeys := false, apart := false, laid := [("namedesk/table.blocks", laid_namedesk_table_blocks)], narrowed := true }
def AuditWaitsUptoSaid : Prop := auditWaitsUptoRow.holds Tryz.pinned (OpenSpec.upto auditWaitsSpec)

/-- 'namedesklaw34.AuditAscending', WHERE WHAT IT READS IS OF BULK AT MOST 1048576: true; the input reads as it did. -/
def auditAscendingUptoRow : OpenClaim := { program := "ytlmkgaoakcjlnaagreatdoor", sum := "d7cee91d07933c5d311fc923f1598676a29307a001f86e3acb44d4f0eebf91c2", func := "namedesk/namedesklaw34.AuditAscending", spec := "auditAscending", inPlace := ["slices.overlaps[int]", "internal/abi.NoEscape", "internal/bytealg.MakeNoZero"], unfollowed := true, recurses := true, named := ["namedesk/table.blocks"], plainKeys := false, apart := false, laid := [("namedesk/table.blocks", laid_namedesk_table_blocks)], narrowed := true }
def AuditAscendingUptoSaid : Prop := auditAscendingUptoRow.holds Tryz.pinned (OpenSpec.upto auditAscendingSpec)

end Rows
end Go.Proofs.YtlmkgaoakcjlnaaGreatDoor
