/- Walk: namedesklaw19.awake. -/
import Derived.Test.YtmgckljgkdahfaaGreatDoorYc
import Derived.Test.YtmgckljgkdahfaaGreatDoorKb
import Derived.Test.YtmgckljgkdahfaaGreatDoorOh
namespace Go.Proofs.YtmgckljgkdahfaaGreatDoor
open Go.RowKit

def awT : Tbl := ⟨[], [], [], [], [⟨1072, 1072, 5⟩], [], [], [], [], [], [], []⟩
abbrev awV (g : Nat) : TV := ⟨nilSV, nilSV, nilSV, nilSV, ⟨some ⟨g, 0, none⟩, 1, 1⟩, nilSV, nilSV, nilSV, nilSV, nilSV, nilSV, nilSV⟩
theorem aw_tbl {w : World} {g : Nat} (hg : Glob w) (h : SpanS w ⟨some ⟨g, 0, none⟩, 1, 1⟩ [⟨1072, 1072, 5⟩]) : TblS w (awV g) awT :=
  ⟨SpanS.nil_ _, SpanS.nil_ _, SpanS.nil_ _, SpanS.nil_ _, h, SpanS.nil_ _, SpanS.nil_ _, MapS.nil_ _, MapS.nil_ _, MapS.nil_ _, IntS.nil_ _, MapS.nil_ _, hg⟩
theorem aw1 : levelT awT [97, 98, 99] = 1 ∧ ordErr awT [97, 98, 99] = 0 := by decide +kernel
theorem aw2 : levelT awT [97, 1072] = 5 ∧ ordErr awT [97, 1072] = 0 := by decide +kernel
theorem aw3 : levelT awT [1072] = 2 ∧ ordErr awT [1072] = 0 := by decide +kernel

set_option maxHeartbeats 800000 in
set_option maxRecDepth 100000 in
theorem s19awake_spec (w : World) (hg : Glob w) : Calls Tryz.prog 25 #[] w fun e w' => e = .returned (.bool true) ∧ Ext w w' := by
  obtain ⟨w2, hw2⟩ : ∃ w2, w2 = (w.alloc (.cells #[.int .i64 1072, .int .i64 1072, .int .i64 5] 54)).alloc (.cells #[.slice none 0 0, .slice none 0 0, .slice none 0 0, .slice none 0 0, .slice (some ⟨w.heap.size, 0, none⟩) 1 1, .slice none 0 0, .slice none 0 0, .slice none 0 0, .slice none 0 0, .slice none 0 0, .slice none 0 0, .slice none 0 0] 26) := ⟨_, rfl⟩
  have hx : Ext w w2 := by rw [hw2]; exact ((Ext.refl _).alloc_ _).alloc_ _
  have HX := Lib.hid hx
  have hz2 : w2.heap.size = w.heap.size + 1 + 1 := by rw [hw2]; simp
  have HT : Hid (∀ w', Ext w2 w' → TblS w' (awV w.heap.size) awT) := Lib.hid (fun w' hw' => aw_tbl (hg.ext (hx.trans' hw')) (by
    have h1 : Ext (w.alloc (.cells #[.int .i64 1072, .int .i64 1072, .int .i64 5] 54)) w2 := by rw [hw2]; exact (Ext.refl _).alloc_ _
    exact (one_span w 1072 1072 5 _).ext (h1.trans' hw')))
  have HRT : Hid (∀ w', Ext w2 w' → ∀ k : Nat, w'.cell? ⟨w.heap.size + 1, k, none⟩ = (awV w.heap.size).v.cells[k]?) := Lib.hid (fun w' hw' k => by
    have h := box_at (w := w.alloc (.cells #[.int .i64 1072, .int .i64 1072, .int .i64 5] 54)) (by rw [hw2] at hw'; exact hw') k
    rw [show (w.alloc (.cells #[.int .i64 1072, .int .i64 1072, .int .i64 5] 54)).heap.size = w.heap.size + 1 from by simp] at h
    exact h)
  have rT2 := HRT.out w2 (Ext.refl _)
  clear hx hg
  go_enter Tryz.func25, Tryz.ntmps25
  go_wp2_with fail
  rw [← hw2]
  clear hw2
  refine (slevel_spec (awV w.heap.size) awT [97, 98, 99] _ 3 3 _ (HT.out _ ((Ext.refl _).alloc_ _)) (ints_at hz2 [97, 98, 99] _ (by simp [maxLen]))).mono ?_
  rintro e w3 ⟨rfl, hb3⟩
  rw [aw1.1, aw1.2]
  have HB3 := Lib.hid (((Ext.refl w2).alloc_ _).trans' hb3)
  have rT3 := HRT.out w3 HB3.out
  clear hb3 rT2
  go_wp2_with fail
  refine (slevel_spec (awV w.heap.size) awT [97, 1072] _ 2 2 _ (HT.out _ (HB3.out.alloc_ _)) (ints_at rfl [97, 1072] _ (by simp [maxLen]))).mono ?_
  rintro e w4 ⟨rfl, hb4⟩
  rw [aw2.1, aw2.2]
  have HB4 := Lib.hid ((HB3.out.alloc_ _).trans' hb4)
  have rT4 := HRT.out w4 HB4.out
  clear hb4 rT3
  go_wp2_with fail
  refine (slevel_spec (awV w.heap.size) awT [1072] _ 1 1 _ (HT.out _ (HB4.out.alloc_ _)) (ints_at rfl [1072] _ (by simp [maxLen]))).mono ?_
  rintro e w5 ⟨rfl, hb5⟩
  rw [aw3.1, aw3.2]
  have HB5 := Lib.hid ((HB4.out.alloc_ _).trans' hb5)
  clear hb5 rT4
  go_wp2_with fail
  go_ret
  exact ⟨rfl, HX.out.trans' HB5.out⟩
end Go.Proofs.YtmgckljgkdahfaaGreatDoor
