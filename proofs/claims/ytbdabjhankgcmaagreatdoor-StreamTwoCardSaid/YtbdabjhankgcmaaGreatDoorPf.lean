/- Walk: namedesklaw9.example. -/
import Derived.Test.YtbdabjhankgcmaaGreatDoorSc
import Derived.Test.YtbdabjhankgcmaaGreatDoorGv
import Derived.Laws.Tables
import Derived.Laws.Rows
namespace Go.Proofs.YtbdabjhankgcmaaGreatDoor
open Go.RowKit
def exD : Tbl := ⟨[], [⟨769, 769, 230⟩], [], [], [], [], [], [], [], [⟨233, [101, 769]⟩], [], []⟩
def DTabIs (w : World) (T : Tbl) (e : Ending) (w' : World) : Prop := ∃ t : TV, e = .returned t.v ∧ TblS w' t T ∧ Ext w w'
theorem one_map9 {w : World} {b : Nat} {lo : Int} {za : Option Addr} {zn zc : Nat} {ts : List Int} (h0 : w.cell? ⟨b, 0, none⟩ = some (.int .i64 lo)) (h1 : w.cell? ⟨b, 1, none⟩ = some (.slice za zn zc)) (hz : IntS w ⟨za, zn, zc⟩ ts) : MapS w ⟨some ⟨b, 0, none⟩, 1, 1⟩ [⟨lo, ts⟩] := by
 refine ⟨⟨rfl, Nat.le_refl _, by simp [maxLen]⟩, fun i m hm => ?_⟩
 match i, hm with
 | 0, hm => simp at hm; subst hm; exact ⟨b, 0, za, zn, zc, rfl, h0, h1, hz⟩
 | i + 1, hm => simp at hm
set_option maxHeartbeats 800000 in
set_option maxRecDepth 100000 in
theorem example9_spec (w : World) (hg : Glob w) : Calls Tryz.prog 70 #[] w (DTabIs w exD) := by
 have HG := Lib.hid hg
 clear hg
 go_enter Tryz.func70, Tryz.ntmps70
 go_wp2_with fail
 let o1 : Obj := .cells #[.slice none 0 0, .slice (some ⟨w.heap.size + 1, 0, none⟩) 1 1, .slice none 0 0, .slice none 0 0, .slice none 0 0, .slice none 0 0, .slice none 0 0, .slice none 0 0, .slice none 0 0, .slice (some ⟨w.heap.size + 3, 0, none⟩) 1 1, .slice none 0 0, .slice none 0 0] 26
 let o2 : Obj := .cells #[.int .i64 769, .int .i64 769, .int .i64 230] 54
 let o3 : Obj := .cells #[.int .i64 101, .int .i64 769] 3
 let o4 : Obj := .cells #[.int .i64 233, .slice (some ⟨w.heap.size + 2, 0, none⟩) 2 2] 74
 have hx1 : Ext w (w.alloc o1) := (Ext.refl w).alloc_ _
 have hx2 : Ext ((w.alloc o1).alloc o2) ((((w.alloc o1).alloc o2).alloc o3).alloc o4) := ((Ext.refl _).alloc_ _).alloc_ _
 have hx3 : Ext (((w.alloc o1).alloc o2).alloc o3) ((((w.alloc o1).alloc o2).alloc o3).alloc o4) := (Ext.refl _).alloc_ _
 have hx : Ext w ((((w.alloc o1).alloc o2).alloc o3).alloc o4) := (((hx1).alloc_ _).alloc_ _).alloc_ _
 have hh : ((((w.alloc o1).alloc o2).alloc o3).alloc o4).heap[w.heap.size]? = some o1 := by
  rw [heap_alloc_old _ _ (by simp; omega), heap_alloc_old _ _ (by simp; omega), heap_alloc_old _ _ (by simp)]
  exact heap_alloc_new _ _
 refine bodyPost_ret (v := (⟨nilSV, ⟨some ⟨w.heap.size + 1, 0, none⟩, 1, 1⟩, nilSV, nilSV, nilSV, nilSV, nilSV, nilSV, nilSV, ⟨some ⟨w.heap.size + 3, 0, none⟩, 1, 1⟩, nilSV, nilSV⟩ : TV).v) (results_cell_row (p := 0) (ty := 26) (by kernel_rfl) _ _ w.heap.size 26 _ (0, 0) _ (by rfl) hh Tryz.underlying26 rfl (by kernel_rfl)) rfl ⟨_, rfl, ?_, hx⟩
 have hi : IntS ((((w.alloc o1).alloc o2).alloc o3).alloc o4) ⟨some ⟨w.heap.size + 2, 0, none⟩, 2, 2⟩ [101, 769] := by
  have := (ints_new ((w.alloc o1).alloc o2) [101, 769] _ (by simp [maxLen])).ext hx3
  simpa using this
 have hs : SpanS ((((w.alloc o1).alloc o2).alloc o3).alloc o4) ⟨some ⟨w.heap.size + 1, 0, none⟩, 1, 1⟩ [⟨769, 769, 230⟩] := SpanS.ext (one_span' (by simp) _ _ _ _) hx2
 have hm : MapS ((((w.alloc o1).alloc o2).alloc o3).alloc o4) ⟨some ⟨w.heap.size + 3, 0, none⟩, 1, 1⟩ [⟨233, [101, 769]⟩] := by
  refine one_map9 (za := some ⟨w.heap.size + 2, 0, none⟩) (zn := 2) (zc := 2) ?_ ?_ hi
  ·have := World.cell?_alloc_new (((w.alloc o1).alloc o2).alloc o3) #[.int .i64 233, .slice (some ⟨w.heap.size + 2, 0, none⟩) 2 2] 74 0
   simpa using this
  ·have := World.cell?_alloc_new (((w.alloc o1).alloc o2).alloc o3) #[.int .i64 233, .slice (some ⟨w.heap.size + 2, 0, none⟩) 2 2] 74 1
   simpa using this
 exact ⟨SpanS.nil_ _, hs, SpanS.nil_ _, SpanS.nil_ _, SpanS.nil_ _, SpanS.nil_ _, SpanS.nil_ _, MapS.nil_ _, MapS.nil_ _, hm, IntS.nil_ _, MapS.nil_ _, HG.out.ext hx⟩
end Go.Proofs.YtbdabjhankgcmaaGreatDoor
