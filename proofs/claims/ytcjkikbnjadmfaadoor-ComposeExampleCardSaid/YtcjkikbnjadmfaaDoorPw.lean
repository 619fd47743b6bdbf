/- Walk: namedesklaw8.awake. -/
import Derived.Test.YtcjkikbnjadmfaaDoorPe
namespace Go.Proofs.YtcjkikbnjadmfaaDoor
open Go.RowKit

theorem cex4 : sameB [233] [233] = true := by decide
set_option maxHeartbeats 1600000 in
set_option maxRecDepth 100000 in
theorem c8awake_spec (w : World) (hg : Glob w) : Calls Tryd.prog 7 #[] w fun e w' => e = .returned (.bool true) ∧ Ext w w' := by
  have HG := Lib.hid hg
  clear hg
  go_enter Tryd.func7, Tryd.ntmps7
  go_wp2_with fail
  refine (cexample_spec w HG.out).mono ?_
  rintro e w1 ⟨t1, rfl, ht1, hb1⟩
  have hx1 : Ext w1 (w1.alloc (.cells #[.int .i64 101, .int .i64 769] 3)) := (Ext.refl _).alloc_ _
  have HT1 := Lib.hid (ht1.ext_ hx1)
  have hbx := hb1.trans' hx1
  clear ht1
  go_wp2_with fail
  refine (nfc_spec exC t1 [101, 769] _ 2 2 _ HT1.out (ints_new w1 [101, 769] 3 (by simp [maxLen]))).mono ?_
  rintro e w2 ⟨B, m, d, rfl, hb2, hi2⟩
  rw [cex1.2] at hi2
  rw [cex1.1]
  have HI2 := Lib.hid hi2
  have HB2 := Lib.hid (hbx.trans' hb2)
  have hx2 : Ext w2 (w2.alloc (.cells #[.int .i64 233] 3)) := (Ext.refl _).alloc_ _
  clear hb1 hx1 hbx hb2 HT1 hi2
  go_wp2_with fail
  refine (same_spec [233] [233] B m d _ 1 1 _ (HI2.out.ext hx2) (ints_new w2 [233] 3 (by simp [maxLen]))).mono ?_
  rintro e w3 ⟨rfl, hb3⟩
  rw [cex4]
  have HB3 := Lib.hid ((HB2.out.trans' hx2).trans' hb3)
  clear hx2 hb3
  go_wp2_with fail
  refine (cexample_spec w3 (HG.out.ext HB3.out)).mono ?_
  rintro e w4 ⟨t4, rfl, ht4, hb4⟩
  have hx4 : Ext w4 (w4.alloc (.cells #[.int .i64 101, .int .i64 769] 3)) := (Ext.refl _).alloc_ _
  have HT4 := Lib.hid (ht4.ext_ hx4)
  have HB4 := Lib.hid ((HB3.out.trans' hb4).trans' hx4)
  clear ht4 hb4 hx4
  go_wp2_with fail
  refine (quick_spec exC t4 [101, 769] _ 2 2 _ HT4.out (ints_new w4 [101, 769] 3 (by simp [maxLen]))).mono ?_
  rintro e w5 ⟨rfl, hb5⟩
  rw [cex2]
  have HB5 := Lib.hid (HB4.out.trans' hb5)
  clear hb5
  go_wp2_with fail
  refine (cexample_spec w5 (HG.out.ext HB5.out)).mono ?_
  rintro e w6 ⟨t6, rfl, ht6, hb6⟩
  have hx6 : Ext w6 (w6.alloc (.cells #[.int .i64 233] 3)) := (Ext.refl _).alloc_ _
  have HT6 := Lib.hid (ht6.ext_ hx6)
  have HB6 := Lib.hid ((HB5.out.trans' hb6).trans' hx6)
  clear ht6 hb6 hx6
  go_wp2_with fail
  refine (isnfc_spec exC t6 [233] _ 1 1 _ HT6.out (ints_new w6 [233] 3 (by simp [maxLen]))).mono ?_
  rintro e w7 ⟨rfl, hb7⟩
  rw [cex3]
  have hb := HB6.out.trans' hb7
  clear hb7
  go_wp2_with fail
  go_ret
  exact ⟨rfl, hb⟩
end Go.Proofs.YtcjkikbnjadmfaaDoor
