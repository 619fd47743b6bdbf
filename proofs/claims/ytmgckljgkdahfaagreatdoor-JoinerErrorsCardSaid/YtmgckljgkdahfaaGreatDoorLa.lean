/- Walk: namedesklaw14.awake. -/
import Derived.Test.YtmgckljgkdahfaaGreatDoorLe
import Derived.Test.YtmgckljgkdahfaaGreatDoorGf
import Derived.Test.YtmgckljgkdahfaaGreatDoorGh
namespace Go.Proofs.YtmgckljgkdahfaaGreatDoor
open Go.RowKit

theorem ex1 : jcheck exT [1576, 8204, 1576] = (0, 0) := by decide +kernel
theorem ex2 : jcheck exT [8205, 1576] = (0, 17) := by decide +kernel
theorem ex3 : jpermB exT [1576, 8204, 1576] 1 = true := by decide +kernel

set_option maxHeartbeats 800000 in
set_option maxRecDepth 100000 in
theorem awake_spec (w : World) (hg : Glob w) : Calls Tryz.prog 17 #[] w fun e w' => e = .returned (.bool true) ∧ Ext w w' := by
  have HG := Lib.hid hg
  clear hg
  go_enter Tryz.func17, Tryz.ntmps17
  go_wp2_with fail
  refine (example_spec w HG.out).mono ?_
  rintro e w1 ⟨t1, rfl, ht1, hb1⟩
  have hx1 : Ext w1 (w1.alloc (.cells #[.int .i64 1576, .int .i64 8204, .int .i64 1576] 3)) := (Ext.refl _).alloc_ _
  have HT1 := Lib.hid (ht1.ext_ hx1)
  have hbx := hb1.trans' hx1
  clear ht1
  go_wp2_with fail
  refine (jcheck_spec t1 exT [1576, 8204, 1576] _ 3 3 _ HT1.out (ints_new w1 [1576, 8204, 1576] 3 (by simp [maxLen]))).mono ?_
  rintro e w2 ⟨rfl, hb2⟩
  rw [ex1]
  have hb02 := hbx.trans' hb2
  clear hb1 hx1 hbx hb2 HT1
  go_wp2_with fail
  refine (example_spec w2 (HG.out.ext hb02)).mono ?_
  rintro e w3 ⟨t3, rfl, ht3, hb3⟩
  have hx3 : Ext w3 (w3.alloc (.cells #[.int .i64 8205, .int .i64 1576] 3)) := (Ext.refl _).alloc_ _
  have HT3 := Lib.hid (ht3.ext_ hx3)
  have hb03 := (hb02.trans' hb3).trans' hx3
  clear ht3
  go_wp2_with fail
  refine (jcheck_spec t3 exT [8205, 1576] _ 2 2 _ HT3.out (ints_new w3 [8205, 1576] 3 (by simp [maxLen]))).mono ?_
  rintro e w4 ⟨rfl, hb4⟩
  rw [ex2]
  have hb04 := hb03.trans' hb4
  clear hb02 hb3 hx3 hb03 hb4 HT3
  go_wp2_with fail
  refine (example_spec w4 (HG.out.ext hb04)).mono ?_
  rintro e w5 ⟨t5, rfl, ht5, hb5⟩
  have hx5 : Ext w5 (w5.alloc (.cells #[.int .i64 1576, .int .i64 8204, .int .i64 1576] 3)) := (Ext.refl _).alloc_ _
  have HT5 := Lib.hid (ht5.ext_ hx5)
  have hb05 := (hb04.trans' hb5).trans' hx5
  clear ht5
  go_wp2_with fail
  refine (jpermitted_spec t5 exT [1576, 8204, 1576] _ 3 3 1 _ HT5.out (ints_new w5 [1576, 8204, 1576] 3 (by simp [maxLen]))).mono ?_
  rintro e w6 ⟨rfl, hb6⟩
  rw [ex3]
  have hb06 := hb05.trans' hb6
  clear hb04 hb5 hx5 hb05 hb6 HT5
  go_wp2_with fail
  go_ret
  exact ⟨rfl, hb06⟩
end Go.Proofs.YtmgckljgkdahfaaGreatDoor
