/- Walk: namedesklaw17.awake. (By program: hv_gen.py.) -/
import Derived.Test.YtbdabjhankgcmaaDoorHc
import Derived.Test.YtbdabjhankgcmaaDoorGv
import Derived.Laws.Tables
namespace Go.Proofs.YtbdabjhankgcmaaDoor
open Go.RowKit
def empT : Tbl := ⟨[], [], [], [], [], [], [], [], [], [], [], []⟩
abbrev nilTV : TV := ⟨nilSV, nilSV, nilSV, nilSV, nilSV, nilSV, nilSV, nilSV, nilSV, nilSV, nilSV, nilSV⟩
theorem nil_tbl {w : World} (hg : Glob w) : TblS w nilTV empT :=
 ⟨SpanS.nil_ _, SpanS.nil_ _, SpanS.nil_ _, SpanS.nil_ _, SpanS.nil_ _, SpanS.nil_ _, SpanS.nil_ _, MapS.nil_ _, MapS.nil_ _, MapS.nil_ _, IntS.nil_ _, MapS.nil_ _, hg⟩
theorem ints_atv {w : World} {H : Nat} (hH : w.heap.size = H) (l : List Int) (t : TypeId) (h : l.length ≤ maxLen) : IntS (w.alloc (.cells (l.map (Value.int .i64)).toArray t)) ⟨some ⟨H, 0, none⟩, l.length, l.length⟩ l := by
 subst hH
 exact ints_new w l t h
theorem vex0 : vchk empT [97] = 0 := by decide +kernel
theorem vex1 : vchk empT [97, 45, 98] = 0 := by decide +kernel
theorem vex2 : vchk empT [49] = 0 := by decide +kernel
theorem vex3 : vchk empT [45, 97] = 14 := by decide +kernel
theorem vex4 : vchk empT [97, 98, 45, 45, 99] = 14 := by decide +kernel
theorem vex5 : vchk empT [] = 10 := by decide +kernel
set_option maxHeartbeats 25600000 in
set_option maxRecDepth 100000 in
theorem vawake_spec (w : World) (hg : Glob w) : Calls Tryd.prog 6 #[] w fun e w' => e = .returned (.bool true) ∧ Ext w w' := by
 have HG := Lib.hid hg
 clear hg
 have hx0 : Ext w (w.alloc (.cells #[.slice none 0 0, .slice none 0 0, .slice none 0 0, .slice none 0 0, .slice none 0 0, .slice none 0 0, .slice none 0 0, .slice none 0 0, .slice none 0 0, .slice none 0 0, .slice none 0 0, .slice none 0 0] 30)) := (Ext.refl _).alloc_ _
 have HB0 := Lib.hid hx0
 have HRT : Hid (∀ w', Ext (w.alloc (.cells #[.slice none 0 0, .slice none 0 0, .slice none 0 0, .slice none 0 0, .slice none 0 0, .slice none 0 0, .slice none 0 0, .slice none 0 0, .slice none 0 0, .slice none 0 0, .slice none 0 0, .slice none 0 0] 30)) w' → ∀ k : Nat, w'.cell? ⟨w.heap.size, k, none⟩ = nilTV.v.cells[k]?) := Lib.hid (fun w' h => box_at h)
 clear hx0
 go_enter Tryd.func6, Tryd.ntmps6
 go_wp2_with fail
 have hx : Ext (w.alloc (.cells #[.slice none 0 0, .slice none 0 0, .slice none 0 0, .slice none 0 0, .slice none 0 0, .slice none 0 0, .slice none 0 0, .slice none 0 0, .slice none 0 0, .slice none 0 0, .slice none 0 0, .slice none 0 0] 30)) ((w.alloc (.cells #[.slice none 0 0, .slice none 0 0, .slice none 0 0, .slice none 0 0, .slice none 0 0, .slice none 0 0, .slice none 0 0, .slice none 0 0, .slice none 0 0, .slice none 0 0, .slice none 0 0, .slice none 0 0] 30)).alloc (.cells #[.int .i64 97] 3)) := (Ext.refl _).alloc_ _
 refine (vcheck_spec empT nilTV [97] (some ⟨w.heap.size + 1, 0, none⟩) 1 1 _ (nil_tbl (HG.out.ext (HB0.out.trans' hx))) (ints_atv (by simp) [97] 3 (by simp [maxLen]))).mono ?_
 rintro e w1 ⟨rfl, hb⟩
 rw [vex0]
 have HB1 := Lib.hid (hx.trans' hb)
 have rT1 := HRT.out _ HB1.out
 clear hb hx
 have hx : Ext w1 (w1.alloc (.cells #[.int .i64 97, .int .i64 45, .int .i64 98] 3)) := (Ext.refl _).alloc_ _
 go_wp2_with fail
 refine (vcheck_spec empT nilTV [97, 45, 98] _ 3 3 _ (nil_tbl (HG.out.ext (HB0.out.trans' (HB1.out.trans' hx)))) (ints_new w1 [97, 45, 98] 3 (by simp [maxLen]))).mono ?_
 rintro e w2 ⟨rfl, hb⟩
 rw [vex1]
 have HB2 := Lib.hid ((HB1.out.trans' hx).trans' hb)
 have rT2 := HRT.out _ HB2.out
 clear hb hx rT1
 have hx : Ext w2 (w2.alloc (.cells #[.int .i64 49] 3)) := (Ext.refl _).alloc_ _
 go_wp2_with fail
 refine (vcheck_spec empT nilTV [49] _ 1 1 _ (nil_tbl (HG.out.ext (HB0.out.trans' (HB2.out.trans' hx)))) (ints_new w2 [49] 3 (by simp [maxLen]))).mono ?_
 rintro e w3 ⟨rfl, hb⟩
 rw [vex2]
 have HB3 := Lib.hid ((HB2.out.trans' hx).trans' hb)
 have rT3 := HRT.out _ HB3.out
 clear hb hx rT2
 have hx : Ext w3 (w3.alloc (.cells #[.int .i64 45, .int .i64 97] 3)) := (Ext.refl _).alloc_ _
 go_wp2_with fail
 refine (vcheck_spec empT nilTV [45, 97] _ 2 2 _ (nil_tbl (HG.out.ext (HB0.out.trans' (HB3.out.trans' hx)))) (ints_new w3 [45, 97] 3 (by simp [maxLen]))).mono ?_
 rintro e w4 ⟨rfl, hb⟩
 rw [vex3]
 have HB4 := Lib.hid ((HB3.out.trans' hx).trans' hb)
 have rT4 := HRT.out _ HB4.out
 clear hb hx rT3
 have hx : Ext w4 (w4.alloc (.cells #[.int .i64 97, .int .i64 98, .int .i64 45, .int .i64 45, .int .i64 99] 3)) := (Ext.refl _).alloc_ _
 go_wp2_with fail
 refine (vcheck_spec empT nilTV [97, 98, 45, 45, 99] _ 5 5 _ (nil_tbl (HG.out.ext (HB0.out.trans' (HB4.out.trans' hx)))) (ints_new w4 [97, 98, 45, 45, 99] 3 (by simp [maxLen]))).mono ?_
 rintro e w5 ⟨rfl, hb⟩
 rw [vex4]
 have HB5 := Lib.hid ((HB4.out.trans' hx).trans' hb)
 have rT5 := HRT.out _ HB5.out
 clear hb hx rT4
 go_wp2_with fail
 refine (vcheck_spec empT nilTV [] none 0 0 _ (nil_tbl (HG.out.ext (HB0.out.trans' HB5.out))) (IntS.nil_ _)).mono ?_
 rintro e w6 ⟨rfl, hb⟩
 rw [vex5]
 have HB6 := Lib.hid (HB5.out.trans' hb)
 have rT6 := HRT.out _ HB6.out
 clear hb rT5
 have hb := HB0.out.trans' HB6.out
 go_wp2_with fail
 go_ret
 exact ⟨rfl, hb⟩
end Go.Proofs.YtbdabjhankgcmaaDoor
