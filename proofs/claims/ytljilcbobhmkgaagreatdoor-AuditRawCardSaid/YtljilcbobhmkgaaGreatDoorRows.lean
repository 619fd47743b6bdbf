/-
  NARROWER THAN 'FOR EVERY INPUT', by the rows' own cells (each row's printed sentence says how): AuditCheck: laid · AuditRaw: laid · AuditLive: laid.
  DERIVED. THE GIVEN ROWS OF THIS SEAT. 3 by the template 'for every input the law returns true; each argument reads behind the call as it read before'; 0 by the template 'total and deterministic' (their statements: YtljilcbobhmkgaaGreatDoorTotals.lean).
  GIVEN WITH THE SEED: the statements are not yours to turn. If you find one false, say at which input.
  Laid BY PROGRAM, IN A SANDBOX (cutbox-rows.mjs): the forced cells as the released guide's own fill.sh prints them over the translation 8ffeec9c4a09ff21… (all of the seat's roots in one cut). By AI agents, Wed Nov 11 2026. No macro, syntax, notation, axiom, sorry.
-/
import Derived.Test.YtljilcbobhmkgaaGreatDoorChecked
import GoSem.Claim
import GoSem.ClaimJoined
import GoSem.ClaimMapViews
import Derived.JoinedTies
import Derived.KernelRfl
namespace Go.Proofs.YtljilcbobhmkgaaGreatDoor
/- THE CELL 'sum', in the pinned program and in every row, IS THE sha256 OF THE DUMP (.gsa) THAT YtljilcbobhmkgaaGreatDoorProg.lean LOADS. Nothing in Lean hashes anything: it is a label: what it is worth is what the hold of that sum in a sandbox is worth. -/
noncomputable def Tryz.pinned : Pinned := { name := "ytljilcbobhmkgaagreatdoor", sum := "8ffeec9c4a09ff2153e4d61036b4a39654af6a7ec25caa90a488bda5911306d2", checked := Tryz.checked }
namespace Rows
def none {H : Type} : Left H := { results := [], args := [] }

/- WHAT THE LISTED PACKAGE-LEVEL VARIABLES READ AS WHEN THE CALL BEGINS. Each datum BY PROGRAM (the guide's laid-datum.mjs) off the statement by which the dump's own 'gosem.cut.vars' lays the variable. In a bare row this is a premise. The card (YtljilcbobhmkgaaGreatDoorCards.lean) ties it to the program's text. -/
def laid_namedesk_table_blocks {H : Type} : DataW H := .slice [.agg [.lit (.int .i64 0), .lit (.int .i64 127), .lit (.int .i64 0)], .agg [.lit (.int .i64 4352), .lit (.int .i64 4370), .lit (.int .i64 0)], .agg [.lit (.int .i64 4449), .lit (.int .i64 4469), .lit (.int .i64 0)], .agg [.lit (.int .i64 4520), .lit (.int .i64 4546), .lit (.int .i64 0)], .agg [.lit (.int .i64 44032), .lit (.int .i64 55203), .lit (.int .i64 0)], .agg [.lit (.int .i64 55296), .lit (.int .i64 57343), .lit (.int .i64 0)]] []

/-- 'namedesklaw34.AuditCheck': WHATEVER THE INPUT: true; the input reads as it did. -/
def auditCheckSpec : ChangeSpec := { name := "auditCheck", fn := fun _ => fun
  | [d1, d2, d3, d4, d5, d6, d7, d8, d9] => { results := [.lit (.bool true)], args := [d1, d2, d3, d4, d5, d6, d7, d8, d9] }
  | _ => none }
def auditCheckRow : OpenClaim := { program := "ytljilcbobhmkgaagreatdoor", sum := "8ffeec9c4a09ff2153e4d61036b4a39654af6a7ec25caa90a488bda5911306d2", func := "namedesk/namedesklaw34.AuditCheck", spec := "auditCheck", inPlace := ["slices.overlaps[int]", "internal/abi.NoEscape", "internal/bytealg.MakeNoZero"], unfollowed := true, recurses := true, named := ["namedesk/table.blocks"], plainKeys := false, apart := false, laid := [("namedesk/table.blocks", laid_namedesk_table_blocks)] }
def AuditCheckSaid : Prop := auditCheckRow.holds Tryz.pinned (OpenSpec.ofChange auditCheckSpec)

/-- ITS FALSE NEIGHBOUR: 'it returns false'. Refute it at one input. -/
def auditCheckWrong : ChangeSpec := { name := "auditCheck", fn := fun _ => fun
  | [d1, d2, d3, d4, d5, d6, d7, d8, d9] => { results := [.lit (.bool false)], args := [d1, d2, d3, d4, d5, d6, d7, d8, d9] }
  | _ => none }
def AuditCheckWrongFalsely : Prop := auditCheckRow.holds Tryz.pinned (OpenSpec.ofChange auditCheckWrong)

/-- 'namedesklaw34.AuditRaw': WHATEVER THE INPUT: true; the input reads as it did. -/
def auditRawSpec : ChangeSpec := { name := "auditRaw", fn := fun _ => fun
  | [d1, d2, d3, d4, d5, d6] => { results := [.lit (.bool true)], args := [d1, d2, d3, d4, d5, d6] }
  | _ => none }
def auditRawRow : OpenClaim := { program := "ytljilcbobhmkgaagreatdoor", sum := "8ffeec9c4a09ff2153e4d61036b4a39654af6a7ec25caa90a488bda5911306d2", func := "namedesk/namedesklaw34.AuditRaw", spec := "auditRaw", inPlace := ["slices.overlaps[int]", "internal/abi.NoEscape", "internal/bytealg.MakeNoZero"], unfollowed := true, recurses := true, named := ["namedesk/table.blocks"], plainKeys := false, apart := false, laid := [("namedesk/table.blocks", laid_namedesk_table_blocks)] }
def AuditRawSaid : Prop := auditRawRow.holds Tryz.pinned (OpenSpec.ofChange auditRawSpec)

/-- ITS FALSE NEIGHBOUR: 'it returns false'. Refute it at one input. -/
def auditRawWrong : ChangeSpec := { name := "auditRaw", fn := fun _ => fun
  | [d1, d2, d3, d4, d5, d6] => { results := [.lit (.bool false)], args := [d1, d2, d3, d4, d5, d6] }
  | _ => none }
def AuditRawWrongFalsely : Prop := auditRawRow.holds Tryz.pinned (OpenSpec.ofChange auditRawWrong)

/-- 'namedesklaw34.AuditLive': WHATEVER THE INPUT: true; the input reads as it did. -/
def auditLiveSpec : ChangeSpec := { name := "auditLive", fn := fun _ => fun
  | [d1, d2, d3, d4] => { results := [.lit (.bool true)], args := [d1, d2, d3, d4] }
  | _ => none }
def auditLiveRow : OpenClaim := { program := "ytljilcbobhmkgaagreatdoor", sum := "8ffeec9c4a09ff2153e4d61036b4a39654af6a7ec25caa90a488bda5911306d2", func := "namedesk/namedesklaw34.AuditLive", spec := "auditLive", inPlace := ["slices.overlaps[int]", "internal/abi.NoEscape", "internal/bytealg.MakeNoZero"], unfollowed := true, recurses := true, named := ["namedesk/table.blocks"], plainKeys := false, apart := false, laid := [("namedesk/table.blocks", laid_namedesk_table_blocks)] }
def AuditLiveSaid : Prop := auditLiveRow.holds Tryz.pinned (OpenSpec.ofChange auditLiveSpec)

/-- ITS FALSE NEIGHBOUR: 'it returns false'. Refute it at one input. -/
def auditLiveWrong : ChangeSpec := { name := "auditLive", fn := fun _ => fun
  | [d1, d2, d3, d4] => { results := [.lit (.bool false)], args := [d1, d2, d3, d4] }
  | _ => none }
def AuditLiveWrongFalsely : Prop := auditLiveRow.holds Tryz.pinned (OpenSpec.ofChange auditLiveWrong)

/- THE SECOND FORM. 'bulk': how many values and letters a reading holds, each counted each time it is reached (what is shared counts as often as it is met; a slice's spare places count too). A statement '..UptoSaid' is the law's where the arguments, and the package variables that the reading takes, are together of bulk at most 1048576: NARROWER than '..Said'. Prove '..Said' where nothing that the law and all that it calls make is longer than what came in: it says more and counts as full. Else prove '..UptoSaid'. A law counts once. -/
mutual
def uptoBulk {H : Type} : DataW H → Nat
  | .lit (.string bytes) => bytes.length + 1
  | .lit _ => 1
  | .nil => 1
  | .ptr d => uptoBulk d + 1
  | .slice elems spare => uptoBulkAll elems + uptoBulkAll spare + 1
  | .agg parts => uptoBulkAll parts + 1
  | .iface _ d => uptoBulk d + 1
  | .map entries => uptoBulkEntries entries + 1
  | .held _ => 1
def uptoBulkAll {H : Type} : List (DataW H) → Nat
  | [] => 0
  | d :: r => uptoBulk d + uptoBulkAll r
def uptoBulkEntries {H : Type} : List (Lit × DataW H) → Nat
  | [] => 0
  | x :: r => uptoBulkEntry x + uptoBulkEntries r
def uptoBulkEntry {H : Type} : Lit × DataW H → Nat
  | (.string bytes, d) => bytes.length + uptoBulk d + 1
  | (_, d) => uptoBulk d + 1
 end
def uptoSmall : (H : Type) → List (DataW H) → Bool := fun _ ds => decide (uptoBulkAll ds ≤ 1048576)
def OpenSpec.upto (s : _root_.Go.ChangeSpec) : _root_.Go.OpenSpec := { _root_.Go.OpenSpec.ofChange s with cond := some uptoSmall }

/-- 'namedesklaw34.AuditCheck', WHERE WHAT IT READS IS OF BULK AT MOST 1048576: true; the input reads as it did. -/
def auditCheckUptoRow : OpenClaim := { program := "ytljilcbobhmkgaagreatdoor", sum := "8ffeec9c4a09ff2153e4d61036b4a39654af6a7ec25caa90a488bda5911306d2", func := "namedesk/namedesklaw34.AuditCheck", spec := "auditCheck", inPlace := ["slices.overlaps[int]", "internal/abi.NoEscape", "internal/bytealg.MakeNoZero"], unfollowed := true, recurses := true, named := ["namedesk/table.blocks"], plainKeys := false, apart := false, laid := [("namedesk/table.blocks", laid_namedesk_table_blocks)], narrowed := true }
def AuditCheckUptoSaid : Prop := auditCheckUptoRow.holds Tryz.pinned (OpenSpec.upto auditCheckSpec)

/-- 'namedesklaw34.AuditRaw', WHERE WHAT IT READS IS OF BULK AT MOST 1048576: true; the input reads as it did. -/
def auditRawUptoRow : OpenClaim := { program := "ytljilcbobhmkgaagreatdoor", sum := "8ffeec9c4a09ff2153e4d61036b4a39654af6a7ec25caa90a488bda5911306d2", func := "namedesk/namedesklaw34.AuditRaw", spec := "auditRaw", inPlace := ["slices.overlaps[int]", "internal/abi.NoEscape", "internal/bytealg.MakeNoZero"], unfollowed := true, recurses := true, named := ["namedesk/table.blocks"], plainKeys := false, apart := false, laid := [("namedesk/table.blocks", laid_namedesk_table_blocks)], narrowed := true }
def AuditRawUptoSaid : Prop := auditRawUptoRow.holds Tryz.pinned (OpenSpec.upto auditRawSpec)

/-- 'namedesklaw34.AuditLive', WHERE WHAT IT READS IS OF BULK AT MOST 1048576: true; the input reads as it did. -/
def auditLiveUptoRow : OpenClaim := { program := "ytljilcbobhmkgaagreatdoor", sum := "8ffeec9c4a09ff2153e4d61036b4a39654af6a7ec25caa90a488bda5911306d2", func := "namedesk/namedesklaw34.AuditLive", spec := "auditLive", inPlace := ["slices.overlaps[int]", "internal/abi.NoEscape", "internal/bytealg.MakeNoZero"], unfollowed := true, recurses := true, named := ["namedesk/table.blocks"], plainKeys := false, apart := false, laid := [("namedesk/table.blocks", laid_namedesk_table_blocks)], narrowed := true }
def AuditLiveUptoSaid : Prop := auditLiveUptoRow.holds Tryz.pinned (OpenSpec.upto auditLiveSpec)

end Rows
end Go.Proofs.YtljilcbobhmkgaaGreatDoor
