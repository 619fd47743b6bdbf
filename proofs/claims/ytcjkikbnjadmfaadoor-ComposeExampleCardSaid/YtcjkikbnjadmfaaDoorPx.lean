/- Walk: namedesklaw8.ComposeExample. -/
import Derived.Test.YtcjkikbnjadmfaaDoorPw
namespace Go.Proofs.YtcjkikbnjadmfaaDoor
open Go.RowKit

def exX : Tbl := ⟨[], [⟨769, 769, 230⟩], [], [], [], [], [], [], [], [⟨233, [101, 769]⟩], [233], []⟩
theorem cxx1 : nfdErr exX [233] = 0 ∧ nfcRes exX [233] = [101, 769] := by decide +kernel
theorem cxx2 : qkT exX [233] = 0 := by decide +kernel
theorem cxx3 : sameB [101, 769] [101, 769] = true := by decide
set_option maxHeartbeats 1600000 in
set_option maxRecDepth 100000 in
theorem composeExample_spec (w : World) (hg : Glob w) : Calls Tryd.prog 3 #[] w fun e w' => e = .returned (.bool true) ∧ Ext w w' := by
  have HG := Lib.hid hg
  clear hg
  go_enter Tryd.func3, Tryd.ntmps3
  go_wp2_with fail
  refine (cexample_spec w HG.out).mono ?_
  rintro e w1 ⟨t1, rfl, ht1, hb1⟩
  obtain ⟨s0, s1, s2, s3, s4, s5, s6, s7, s8, s9, s10, s11⟩ := t1
  have HT1 := Lib.hid ht1
  have HB1 := Lib.hid hb1
  clear ht1 hb1
  go_upto_region 3 with fail
  have hx2 : Ext w1 ((w1.alloc (.cells #[.slice s0.a s0.n s0.c, .slice s1.a s1.n s1.c, .slice s2.a s2.n s2.c, .slice s3.a s3.n s3.c, .slice s4.a s4.n s4.c, .slice s5.a s5.n s5.c, .slice s6.a s6.n s6.c, .slice s7.a s7.n s7.c, .slice s8.a s8.n s8.c, .slice s9.a s9.n s9.c, .slice (some ⟨w1.heap.size + 1, 0, none⟩) 1 1, .slice s11.a s11.n s11.c] 26)).alloc (.cells #[.int .i64 233] 3)) := ((Ext.refl _).alloc_ _).alloc_ _
  have HT2 : Hid (TblS ((w1.alloc (.cells #[.slice s0.a s0.n s0.c, .slice s1.a s1.n s1.c, .slice s2.a s2.n s2.c, .slice s3.a s3.n s3.c, .slice s4.a s4.n s4.c, .slice s5.a s5.n s5.c, .slice s6.a s6.n s6.c, .slice s7.a s7.n s7.c, .slice s8.a s8.n s8.c, .slice s9.a s9.n s9.c, .slice (some ⟨w1.heap.size + 1, 0, none⟩) 1 1, .slice s11.a s11.n s11.c] 26)).alloc (.cells #[.int .i64 233] 3)) ⟨s0, s1, s2, s3, s4, s5, s6, s7, s8, s9, ⟨some ⟨w1.heap.size + 1, 0, none⟩, 1, 1⟩, s11⟩ exX) := Lib.hid (by
    obtain ⟨a0, a1, a2, a3, a4, a5, a6, a7, a8, a9, a10, a11, ag⟩ := HT1.out.ext_ hx2
    refine ⟨a0, a1, a2, a3, a4, a5, a6, a7, a8, a9, ?_, a11, ag⟩
    show IntS _ _ [233]
    have := ints_new (w1.alloc (.cells #[.slice s0.a s0.n s0.c, .slice s1.a s1.n s1.c, .slice s2.a s2.n s2.c, .slice s3.a s3.n s3.c, .slice s4.a s4.n s4.c, .slice s5.a s5.n s5.c, .slice s6.a s6.n s6.c, .slice s7.a s7.n s7.c, .slice s8.a s8.n s8.c, .slice s9.a s9.n s9.c, .slice (some ⟨w1.heap.size + 1, 0, none⟩) 1 1, .slice s11.a s11.n s11.c] 26)) [233] 3 (by simp [maxLen])
    simpa using this)
  have HX2 : Hid (∀ w', Ext ((w1.alloc (.cells #[.slice s0.a s0.n s0.c, .slice s1.a s1.n s1.c, .slice s2.a s2.n s2.c, .slice s3.a s3.n s3.c, .slice s4.a s4.n s4.c, .slice s5.a s5.n s5.c, .slice s6.a s6.n s6.c, .slice s7.a s7.n s7.c, .slice s8.a s8.n s8.c, .slice s9.a s9.n s9.c, .slice (some ⟨w1.heap.size + 1, 0, none⟩) 1 1, .slice s11.a s11.n s11.c] 26)).alloc (.cells #[.int .i64 233] 3)) w' → ∀ k : Nat, w'.cell? ⟨w1.heap.size, k, none⟩ = (#[.slice s0.a s0.n s0.c, .slice s1.a s1.n s1.c, .slice s2.a s2.n s2.c, .slice s3.a s3.n s3.c, .slice s4.a s4.n s4.c, .slice s5.a s5.n s5.c, .slice s6.a s6.n s6.c, .slice s7.a s7.n s7.c, .slice s8.a s8.n s8.c, .slice s9.a s9.n s9.c, .slice (some ⟨w1.heap.size + 1, 0, none⟩) 1 1, .slice s11.a s11.n s11.c] : Array Value)[k]?) := Lib.hid fun w' h k => box_at (((Ext.refl _).alloc_ _).trans' h) k
  have HB2 : Hid (Ext w ((w1.alloc (.cells #[.slice s0.a s0.n s0.c, .slice s1.a s1.n s1.c, .slice s2.a s2.n s2.c, .slice s3.a s3.n s3.c, .slice s4.a s4.n s4.c, .slice s5.a s5.n s5.c, .slice s6.a s6.n s6.c, .slice s7.a s7.n s7.c, .slice s8.a s8.n s8.c, .slice s9.a s9.n s9.c, .slice (some ⟨w1.heap.size + 1, 0, none⟩) 1 1, .slice s11.a s11.n s11.c] 26)).alloc (.cells #[.int .i64 233] 3))) := Lib.hid (HB1.out.trans' hx2)
  obtain ⟨w2, hw2⟩ : ∃ w2, w2 = ((w1.alloc (.cells #[.slice s0.a s0.n s0.c, .slice s1.a s1.n s1.c, .slice s2.a s2.n s2.c, .slice s3.a s3.n s3.c, .slice s4.a s4.n s4.c, .slice s5.a s5.n s5.c, .slice s6.a s6.n s6.c, .slice s7.a s7.n s7.c, .slice s8.a s8.n s8.c, .slice s9.a s9.n s9.c, .slice (some ⟨w1.heap.size + 1, 0, none⟩) 1 1, .slice s11.a s11.n s11.c] 26)).alloc (.cells #[.int .i64 233] 3)) := ⟨_, rfl⟩
  have rT := HX2.out _ (Ext.refl _)
  have hz2 : w1.heap.size < w2.heap.size := by rw [hw2]; simp; omega
  rw [← hw2] at HT2 HX2 HB2 rT ⊢
  clear hw2 hx2 HB1 HT1
  have hx3 : Ext w2 (w2.alloc (.cells #[.int .i64 233] 3)) := (Ext.refl _).alloc_ _
  go_wp2_with fail
  refine (nfc_spec exX ⟨s0, s1, s2, s3, s4, s5, s6, s7, s8, s9, ⟨some ⟨w1.heap.size + 1, 0, none⟩, 1, 1⟩, s11⟩ [233] _ 1 1 _ (HT2.out.ext_ hx3) (ints_new w2 [233] 3 (by simp [maxLen]))).mono ?_
  rintro e w3 ⟨B, m, d, rfl, hb3, hi3⟩
  rw [cxx1.2] at hi3
  rw [cxx1.1]
  have HI3 := Lib.hid hi3
  have HE3 := Lib.hid (hx3.trans' hb3)
  clear hi3 hb3 hx3 rT
  go_wp2_with fail
  refine (c8awake_spec w3 (HG.out.ext (HB2.out.trans' HE3.out))).mono ?_
  rintro e w4 ⟨rfl, hb4⟩
  have HI4 := Lib.hid (HI3.out.ext hb4)
  have HE4 := Lib.hid (HE3.out.trans' hb4)
  have hx4 : Ext w4 (w4.alloc (.cells #[.int .i64 101, .int .i64 769] 3)) := (Ext.refl _).alloc_ _
  clear hb4
  go_wp2_with fail
  refine (same_spec [101, 769] [101, 769] B m d _ 2 2 _ (HI4.out.ext hx4) (ints_new w4 [101, 769] 3 (by simp [maxLen]))).mono ?_
  rintro e w5 ⟨rfl, hb5⟩
  rw [cxx3]
  have HE5 := Lib.hid ((HE4.out.trans' hx4).trans' hb5)
  have rT := HX2.out _ HE5.out
  have hx5 : Ext w5 (w5.alloc (.cells #[.int .i64 233] 3)) := (Ext.refl _).alloc_ _
  clear hb5 hx4
  go_wp2_with fail
  refine (quick_spec exX ⟨s0, s1, s2, s3, s4, s5, s6, s7, s8, s9, ⟨some ⟨w1.heap.size + 1, 0, none⟩, 1, 1⟩, s11⟩ [233] _ 1 1 _ (HT2.out.ext_ (HE5.out.trans' hx5)) (ints_new w5 [233] 3 (by simp [maxLen]))).mono ?_
  rintro e w6 ⟨rfl, hb6⟩
  rw [cxx2]
  have hb := HB2.out.trans' ((HE5.out.trans' hx5).trans' hb6)
  clear hb6 hx5 rT
  go_wp2_with fail
  go_ret
  exact ⟨rfl, hb⟩
end Go.Proofs.YtcjkikbnjadmfaaDoor
