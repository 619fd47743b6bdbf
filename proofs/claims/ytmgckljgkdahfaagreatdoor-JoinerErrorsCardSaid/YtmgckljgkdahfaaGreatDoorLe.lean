/- Walk: namedesklaw14.example. -/
import Derived.Test.YtmgckljgkdahfaaGreatDoorKb
import Derived.Laws.Tables
import Derived.Laws.Rows
namespace Go.Proofs.YtmgckljgkdahfaaGreatDoor
open Go.RowKit

def exT : Tbl := ⟨[], [], [⟨1576, 1576, 3⟩], [], [], [], [], [], [], [], [], []⟩
def TabIs (w : World) (T : Tbl) (e : Ending) (w' : World) : Prop := ∃ t : TV, e = .returned t.v ∧ TblS w' t T ∧ Ext w w'

set_option maxHeartbeats 400000 in
set_option maxRecDepth 100000 in
theorem example_spec (w : World) (hg : Glob w) : Calls Tryz.prog 44 #[] w (TabIs w exT) := by
  have HG := Lib.hid hg
  clear hg
  go_enter Tryz.func44, Tryz.ntmps44
  go_wp2_with fail
  have hx : Ext w ((w.alloc (.cells #[.slice none 0 0, .slice none 0 0, .slice (some ⟨w.heap.size + 1, 0, none⟩) 1 1, .slice none 0 0, .slice none 0 0, .slice none 0 0, .slice none 0 0, .slice none 0 0, .slice none 0 0, .slice none 0 0, .slice none 0 0, .slice none 0 0] 26)).alloc (.cells #[.int .i64 1576, .int .i64 1576, .int .i64 3] 54)) := ((Ext.refl w).alloc_ _).alloc_ _
  refine bodyPost_ret (v := (⟨nilSV, nilSV, ⟨some ⟨w.heap.size + 1, 0, none⟩, 1, 1⟩, nilSV, nilSV, nilSV, nilSV, nilSV, nilSV, nilSV, nilSV, nilSV⟩ : TV).v) (results_cell_row (p := 0) (ty := 26) (by kernel_rfl) _ _ w.heap.size 26 _ (0, 0) _ (by rfl) (heap_alloc2_old w _ _) Tryz.underlying26 rfl (by kernel_rfl)) rfl ⟨_, rfl, ?_, hx⟩
  exact ⟨SpanS.nil_ _, SpanS.nil_ _, one_span' (by simp) _ _ _ _, SpanS.nil_ _, SpanS.nil_ _, SpanS.nil_ _, SpanS.nil_ _, MapS.nil_ _, MapS.nil_ _, MapS.nil_ _, IntS.nil_ _, MapS.nil_ _, HG.out.ext hx⟩
end Go.Proofs.YtmgckljgkdahfaaGreatDoor
