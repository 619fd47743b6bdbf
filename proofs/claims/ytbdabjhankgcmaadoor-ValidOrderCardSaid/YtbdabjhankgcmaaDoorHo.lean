/- The law ValidOrder. (By program: ho_gen.py.) -/
import Derived.Test.YtbdabjhankgcmaaDoorHv
import Derived.Test.YtbdabjhankgcmaaDoorGh
namespace Go.Proofs.YtbdabjhankgcmaaDoor
open Go.RowKit
def voT : Tbl := ⟨[⟨769, 769, 2⟩], [⟨769, 769, 230⟩], [], [], [], [⟨183, 183, 1⟩, ⟨769, 769, 1⟩, ⟨8205, 8205, 4⟩], [], [], [], [⟨225, [97, 769]⟩], [], []⟩
theorem vo0 : vchk voT [97, 769, 45] = 13 := by decide +kernel
theorem vo1 : vchk voT [769, 45] = 14 := by decide +kernel
theorem vo2 : vchk voT [769, 32] = 15 := by decide +kernel
theorem vo3 : vchk voT [98, 32, 8205] = 16 := by decide +kernel
theorem vo4 : vchk voT [98, 8205, 183] = 17 := by decide +kernel
theorem vo5 : vchk voT [98, 183] = 18 := by decide +kernel
abbrev voV (w : World) : TV := ⟨⟨some ⟨w.heap.size, 0, none⟩, 1, 1⟩, ⟨some ⟨w.heap.size + 1, 0, none⟩, 1, 1⟩, nilSV, nilSV, nilSV, ⟨some ⟨w.heap.size + 2, 0, none⟩, 3, 3⟩, nilSV, nilSV, nilSV, ⟨some ⟨w.heap.size + 4, 0, none⟩, 1, 1⟩, nilSV, nilSV⟩
theorem sta_spans (w : World) (t : TypeId) : SpanS (w.alloc (.cells #[.int .i64 183, .int .i64 183, .int .i64 1, .int .i64 769, .int .i64 769, .int .i64 1, .int .i64 8205, .int .i64 8205, .int .i64 4] t)) ⟨some ⟨w.heap.size, 0, none⟩, 3, 3⟩ voT.sta := by
 refine ⟨⟨rfl, by simp [voT], by simp [maxLen]⟩, fun i y hy => ?_⟩
 match i, hy with
 | 0, hy | 1, hy | 2, hy =>
  simp [voT] at hy
  subst hy
  refine ⟨w.heap.size, 0, rfl, ?_, ?_, ?_⟩ <;> exact World.cell?_alloc_new w _ _ _
 | i + 3, hy => simp [voT] at hy
theorem one_spanV (w : World) (t : TypeId) (a b c : Int) : SpanS (w.alloc (.cells #[.int .i64 a, .int .i64 b, .int .i64 c] t)) ⟨some ⟨w.heap.size, 0, none⟩, 1, 1⟩ [⟨a, b, c⟩] := by
 refine ⟨⟨rfl, by simp, by simp [maxLen]⟩, fun i y hy => ?_⟩
 match i, hy with
 | 0, hy =>
  simp at hy
  subst hy
  refine ⟨w.heap.size, 0, rfl, ?_, ?_, ?_⟩ <;> exact World.cell?_alloc_new w _ _ _
 | i + 1, hy => simp at hy
theorem one_mapV {w : World} {b : Nat} {lo : Int} {za : Option Addr} {zn zc : Nat} {ts : List Int} (h0 : w.cell? ⟨b, 0, none⟩ = some (.int .i64 lo)) (h1 : w.cell? ⟨b, 1, none⟩ = some (.slice za zn zc)) (hz : IntS w ⟨za, zn, zc⟩ ts) : MapS w ⟨some ⟨b, 0, none⟩, 1, 1⟩ [⟨lo, ts⟩] := by
 refine ⟨⟨rfl, Nat.le_refl _, by simp [maxLen]⟩, fun i m hm => ?_⟩
 match i, hm with
 | 0, hm => simp at hm; subst hm; exact ⟨b, 0, za, zn, zc, rfl, h0, h1, hz⟩
 | i + 1, hm => simp at hm
theorem vo_tbl {w w' : World} (hg : Glob w') (hx : Ext (((((w.alloc (.cells #[.int .i64 769, .int .i64 769, .int .i64 2] 36)).alloc (.cells #[.int .i64 769, .int .i64 769, .int .i64 230] 36)).alloc (.cells #[.int .i64 183, .int .i64 183, .int .i64 1, .int .i64 769, .int .i64 769, .int .i64 1, .int .i64 8205, .int .i64 8205, .int .i64 4] 36)).alloc (.cells #[.int .i64 97, .int .i64 769] 3)).alloc (.cells #[.int .i64 225, .slice (some ⟨w.heap.size + 3, 0, none⟩) 2 2] 38)) w') : TblS w' (voV w) voT := by
 have hs : ∀ k, k ≤ 5 → True := fun _ _ => trivial
 have s1 : ((w.alloc (.cells #[.int .i64 769, .int .i64 769, .int .i64 2] 36))).heap.size = w.heap.size + 1 := by simp
 have s2 : (((w.alloc (.cells #[.int .i64 769, .int .i64 769, .int .i64 2] 36)).alloc (.cells #[.int .i64 769, .int .i64 769, .int .i64 230] 36))).heap.size = w.heap.size + 2 := by simp
 have s3 : ((((w.alloc (.cells #[.int .i64 769, .int .i64 769, .int .i64 2] 36)).alloc (.cells #[.int .i64 769, .int .i64 769, .int .i64 230] 36)).alloc (.cells #[.int .i64 183, .int .i64 183, .int .i64 1, .int .i64 769, .int .i64 769, .int .i64 1, .int .i64 8205, .int .i64 8205, .int .i64 4] 36))).heap.size = w.heap.size + 3 := by simp
 have s4 : (((((w.alloc (.cells #[.int .i64 769, .int .i64 769, .int .i64 2] 36)).alloc (.cells #[.int .i64 769, .int .i64 769, .int .i64 230] 36)).alloc (.cells #[.int .i64 183, .int .i64 183, .int .i64 1, .int .i64 769, .int .i64 769, .int .i64 1, .int .i64 8205, .int .i64 8205, .int .i64 4] 36)).alloc (.cells #[.int .i64 97, .int .i64 769] 3))).heap.size = w.heap.size + 4 := by simp
 have x1 : Ext (w.alloc (.cells #[.int .i64 769, .int .i64 769, .int .i64 2] 36)) w' := Ext.trans' ((((Ext.refl _).alloc_ _).alloc_ _).alloc_ _ |>.alloc_ _) hx
 have x2 : Ext ((w.alloc (.cells #[.int .i64 769, .int .i64 769, .int .i64 2] 36)).alloc (.cells #[.int .i64 769, .int .i64 769, .int .i64 230] 36)) w' := Ext.trans' (((Ext.refl _).alloc_ _).alloc_ _ |>.alloc_ _) hx
 have x3 : Ext (((w.alloc (.cells #[.int .i64 769, .int .i64 769, .int .i64 2] 36)).alloc (.cells #[.int .i64 769, .int .i64 769, .int .i64 230] 36)).alloc (.cells #[.int .i64 183, .int .i64 183, .int .i64 1, .int .i64 769, .int .i64 769, .int .i64 1, .int .i64 8205, .int .i64 8205, .int .i64 4] 36)) w' := Ext.trans' (((Ext.refl _).alloc_ _).alloc_ _) hx
 have x4 : Ext ((((w.alloc (.cells #[.int .i64 769, .int .i64 769, .int .i64 2] 36)).alloc (.cells #[.int .i64 769, .int .i64 769, .int .i64 230] 36)).alloc (.cells #[.int .i64 183, .int .i64 183, .int .i64 1, .int .i64 769, .int .i64 769, .int .i64 1, .int .i64 8205, .int .i64 8205, .int .i64 4] 36)).alloc (.cells #[.int .i64 97, .int .i64 769] 3)) w' := Ext.trans' ((Ext.refl _).alloc_ _) hx
 have c1 := (one_spanV w 36 769 769 2).ext x1
 have c2 := (one_spanV (w.alloc (.cells #[.int .i64 769, .int .i64 769, .int .i64 2] 36)) 36 769 769 230).ext x2
 rw [s1] at c2
 have c3 := (sta_spans ((w.alloc (.cells #[.int .i64 769, .int .i64 769, .int .i64 2] 36)).alloc (.cells #[.int .i64 769, .int .i64 769, .int .i64 230] 36)) 36).ext x3
 rw [s2] at c3
 have c4 := (ints_new (((w.alloc (.cells #[.int .i64 769, .int .i64 769, .int .i64 2] 36)).alloc (.cells #[.int .i64 769, .int .i64 769, .int .i64 230] 36)).alloc (.cells #[.int .i64 183, .int .i64 183, .int .i64 1, .int .i64 769, .int .i64 769, .int .i64 1, .int .i64 8205, .int .i64 8205, .int .i64 4] 36)) [97, 769] 3 (by simp [maxLen])).ext x4
 rw [s3] at c4
 have m0 := keep_cell (ext_keep hx) (World.cell?_alloc_new ((((w.alloc (.cells #[.int .i64 769, .int .i64 769, .int .i64 2] 36)).alloc (.cells #[.int .i64 769, .int .i64 769, .int .i64 230] 36)).alloc (.cells #[.int .i64 183, .int .i64 183, .int .i64 1, .int .i64 769, .int .i64 769, .int .i64 1, .int .i64 8205, .int .i64 8205, .int .i64 4] 36)).alloc (.cells #[.int .i64 97, .int .i64 769] 3)) #[.int .i64 225, .slice (some ⟨w.heap.size + 3, 0, none⟩) 2 2] 38 0)
 have m1 := keep_cell (ext_keep hx) (World.cell?_alloc_new ((((w.alloc (.cells #[.int .i64 769, .int .i64 769, .int .i64 2] 36)).alloc (.cells #[.int .i64 769, .int .i64 769, .int .i64 230] 36)).alloc (.cells #[.int .i64 183, .int .i64 183, .int .i64 1, .int .i64 769, .int .i64 769, .int .i64 1, .int .i64 8205, .int .i64 8205, .int .i64 4] 36)).alloc (.cells #[.int .i64 97, .int .i64 769] 3)) #[.int .i64 225, .slice (some ⟨w.heap.size + 3, 0, none⟩) 2 2] 38 1)
 rw [s4] at m0 m1
 have c5 := one_mapV m0 m1 (by simpa using c4)
 exact ⟨c1, c2, SpanS.nil_ _, SpanS.nil_ _, SpanS.nil_ _, c3, SpanS.nil_ _, MapS.nil_ _, MapS.nil_ _, c5, IntS.nil_ _, MapS.nil_ _, hg⟩
set_option maxHeartbeats 6400000 in
set_option maxRecDepth 100000 in
theorem vorder_spec (n : Int) (w : World) (hg : Glob w) :
  Calls Tryd.prog 5 #[.int .i64 n] w fun e w' => e = .returned (.bool true) ∧ Ext w w' := by
 have HG := Lib.hid hg
 obtain ⟨w5, hw5⟩ : ∃ w5, w5 = (((((w.alloc (.cells #[.int .i64 769, .int .i64 769, .int .i64 2] 36)).alloc (.cells #[.int .i64 769, .int .i64 769, .int .i64 230] 36)).alloc (.cells #[.int .i64 183, .int .i64 183, .int .i64 1, .int .i64 769, .int .i64 769, .int .i64 1, .int .i64 8205, .int .i64 8205, .int .i64 4] 36)).alloc (.cells #[.int .i64 97, .int .i64 769] 3)).alloc (.cells #[.int .i64 225, .slice (some ⟨w.heap.size + 3, 0, none⟩) 2 2] 38)) := ⟨_, rfl⟩
 have hz5 : w5.heap.size = w.heap.size + 5 := by rw [hw5]; simp
 obtain ⟨w6, hw6⟩ : ∃ w6, w6 = w5.alloc (.cells #[.slice (some ⟨w.heap.size, 0, none⟩) 1 1, .slice (some ⟨w.heap.size + 1, 0, none⟩) 1 1, .slice none 0 0, .slice none 0 0, .slice none 0 0, .slice (some ⟨w.heap.size + 2, 0, none⟩) 3 3, .slice none 0 0, .slice none 0 0, .slice none 0 0, .slice (some ⟨w.heap.size + 4, 0, none⟩) 1 1, .slice none 0 0, .slice none 0 0] 30) := ⟨_, rfl⟩
 have hx5 : Ext w w5 := by rw [hw5]; exact ((((Ext.refl _).alloc_ _).alloc_ _).alloc_ _).alloc_ _ |>.alloc_ _
 have hx56 : Ext w5 w6 := by rw [hw6]; exact (Ext.refl _).alloc_ _
 have HX := Lib.hid (hx5.trans' hx56)
 have HT : Hid (∀ w', Ext w6 w' → TblS w' (voV w) voT) := Lib.hid (fun w' h => vo_tbl (hg.ext (hx5.trans' (hx56.trans' h))) (by rw [← hw5]; exact hx56.trans' h))
 have HRT : Hid (∀ w', Ext w6 w' → ∀ k : Nat, w'.cell? ⟨w.heap.size + 5, k, none⟩ = (voV w).v.cells[k]?) := Lib.hid (fun w' h k => by
  rw [hw6] at h
  have h' := box_at h k
  rw [hz5] at h'
  exact h')
 have hz6 : w6.heap.size = w.heap.size + 6 := by rw [hw6]; simp; exact hz5
 have hpk := pickV_bd n (n := 6) (by decide)
 clear hz6
 obtain ⟨k, hk⟩ : ∃ k : Nat, pickV n 6 = k := ⟨(pickV n 6).toNat, by omega⟩
 have hk6 : k < 6 := by omega
 have HK := Lib.hid hk
 clear hg hx5 hx56 hpk hk
 go_enter Tryd.func5, Tryd.ntmps5
 go_wp2_with fail
 refine (kpick_spec n 6 (by decide) (by decide) _).mono ?_
 rintro e w' ⟨rfl, rfl⟩
 rw [HK.out]
 rw [← hw5, ← hw6]
 clear HK hw5 hw6
 match k, hk6 with
 | 0, _ =>
  obtain ⟨w8, hw8⟩ : ∃ w8, w8 = ((((((((w6.alloc (.cells #[.int .i64 97, .int .i64 769, .int .i64 45] 3)).alloc (.cells #[.int .i64 769, .int .i64 45] 3)).alloc (.cells #[.int .i64 769, .int .i64 32] 3)).alloc (.cells #[.int .i64 98, .int .i64 32, .int .i64 8205] 3)).alloc (.cells #[.int .i64 98, .int .i64 8205, .int .i64 183] 3)).alloc (.cells #[.int .i64 98, .int .i64 183] 3)).alloc (.cells #[.slice (some ⟨w6.heap.size, 0, none⟩) 3 3, .slice (some ⟨w6.heap.size + 1, 0, none⟩) 2 2, .slice (some ⟨w6.heap.size + 1 + 1, 0, none⟩) 2 2, .slice (some ⟨w6.heap.size + 1 + 1 + 1, 0, none⟩) 3 3, .slice (some ⟨w6.heap.size + 1 + 1 + 1 + 1, 0, none⟩) 3 3, .slice (some ⟨w6.heap.size + 1 + 1 + 1 + 1 + 1, 0, none⟩) 2 2] 23)).alloc (.cells #[.int .i64 13, .int .i64 14, .int .i64 15, .int .i64 16, .int .i64 17, .int .i64 18] 32)) := ⟨_, rfl⟩
  have hi : IntS w8 ⟨some ⟨w6.heap.size, 0, none⟩, 3, 3⟩ [97, 769, 45] := by
   have h0 := ints_new w6 [97, 769, 45] 3 (by simp [maxLen])
   have hx : Ext (w6.alloc (.cells #[.int .i64 97, .int .i64 769, .int .i64 45] 3)) w8 := by rw [hw8]; exact ((((((((Ext.refl _).alloc_ _).alloc_ _).alloc_ _).alloc_ _).alloc_ _).alloc_ _).alloc_ _)
   have h1 := h0.ext hx
   simpa using h1
  have hx8 : Ext w6 w8 := by rw [hw8]; exact (((((((((Ext.refl _).alloc_ _).alloc_ _).alloc_ _).alloc_ _).alloc_ _).alloc_ _).alloc_ _).alloc_ _)
  have HI := Lib.hid hi
  have HX8 := Lib.hid hx8
  clear hi hx8
  go_wp2_with fail
  rw [← hw8]
  clear hw8
  refine (vawake_spec w8 (HG.out.ext (HX.out.trans' HX8.out))).mono ?_
  rintro e w9 ⟨rfl, hb9⟩
  have HB9 := Lib.hid (HX8.out.trans' hb9)
  have HI9 := Lib.hid (HI.out.ext hb9)
  have rT9 := HRT.out w9 HB9.out
  clear hb9
  go_wp2_with fail
  refine (vcheck_spec voT (voV w) [97, 769, 45] _ 3 3 w9 (HT.out _ HB9.out) HI9.out).mono ?_
  rintro e w10 ⟨rfl, hb10⟩
  rw [vo0]
  have hb := HX.out.trans' (HB9.out.trans' hb10)
  clear hb10 rT9
  go_wp2_with fail
  go_ret
  exact ⟨rfl, hb⟩
 | 1, _ =>
  obtain ⟨w8, hw8⟩ : ∃ w8, w8 = ((((((((w6.alloc (.cells #[.int .i64 97, .int .i64 769, .int .i64 45] 3)).alloc (.cells #[.int .i64 769, .int .i64 45] 3)).alloc (.cells #[.int .i64 769, .int .i64 32] 3)).alloc (.cells #[.int .i64 98, .int .i64 32, .int .i64 8205] 3)).alloc (.cells #[.int .i64 98, .int .i64 8205, .int .i64 183] 3)).alloc (.cells #[.int .i64 98, .int .i64 183] 3)).alloc (.cells #[.slice (some ⟨w6.heap.size, 0, none⟩) 3 3, .slice (some ⟨w6.heap.size + 1, 0, none⟩) 2 2, .slice (some ⟨w6.heap.size + 1 + 1, 0, none⟩) 2 2, .slice (some ⟨w6.heap.size + 1 + 1 + 1, 0, none⟩) 3 3, .slice (some ⟨w6.heap.size + 1 + 1 + 1 + 1, 0, none⟩) 3 3, .slice (some ⟨w6.heap.size + 1 + 1 + 1 + 1 + 1, 0, none⟩) 2 2] 23)).alloc (.cells #[.int .i64 13, .int .i64 14, .int .i64 15, .int .i64 16, .int .i64 17, .int .i64 18] 32)) := ⟨_, rfl⟩
  have hi : IntS w8 ⟨some ⟨w6.heap.size + 1, 0, none⟩, 2, 2⟩ [769, 45] := by
   have h0 := ints_new (w6.alloc (.cells #[.int .i64 97, .int .i64 769, .int .i64 45] 3)) [769, 45] 3 (by simp [maxLen])
   have hx : Ext ((w6.alloc (.cells #[.int .i64 97, .int .i64 769, .int .i64 45] 3)).alloc (.cells #[.int .i64 769, .int .i64 45] 3)) w8 := by rw [hw8]; exact (((((((Ext.refl _).alloc_ _).alloc_ _).alloc_ _).alloc_ _).alloc_ _).alloc_ _)
   have h1 := h0.ext hx
   simpa using h1
  have hx8 : Ext w6 w8 := by rw [hw8]; exact (((((((((Ext.refl _).alloc_ _).alloc_ _).alloc_ _).alloc_ _).alloc_ _).alloc_ _).alloc_ _).alloc_ _)
  have HI := Lib.hid hi
  have HX8 := Lib.hid hx8
  clear hi hx8
  go_wp2_with fail
  rw [← hw8]
  clear hw8
  refine (vawake_spec w8 (HG.out.ext (HX.out.trans' HX8.out))).mono ?_
  rintro e w9 ⟨rfl, hb9⟩
  have HB9 := Lib.hid (HX8.out.trans' hb9)
  have HI9 := Lib.hid (HI.out.ext hb9)
  have rT9 := HRT.out w9 HB9.out
  clear hb9
  go_wp2_with fail
  refine (vcheck_spec voT (voV w) [769, 45] _ 2 2 w9 (HT.out _ HB9.out) HI9.out).mono ?_
  rintro e w10 ⟨rfl, hb10⟩
  rw [vo1]
  have hb := HX.out.trans' (HB9.out.trans' hb10)
  clear hb10 rT9
  go_wp2_with fail
  go_ret
  exact ⟨rfl, hb⟩
 | 2, _ =>
  obtain ⟨w8, hw8⟩ : ∃ w8, w8 = ((((((((w6.alloc (.cells #[.int .i64 97, .int .i64 769, .int .i64 45] 3)).alloc (.cells #[.int .i64 769, .int .i64 45] 3)).alloc (.cells #[.int .i64 769, .int .i64 32] 3)).alloc (.cells #[.int .i64 98, .int .i64 32, .int .i64 8205] 3)).alloc (.cells #[.int .i64 98, .int .i64 8205, .int .i64 183] 3)).alloc (.cells #[.int .i64 98, .int .i64 183] 3)).alloc (.cells #[.slice (some ⟨w6.heap.size, 0, none⟩) 3 3, .slice (some ⟨w6.heap.size + 1, 0, none⟩) 2 2, .slice (some ⟨w6.heap.size + 1 + 1, 0, none⟩) 2 2, .slice (some ⟨w6.heap.size + 1 + 1 + 1, 0, none⟩) 3 3, .slice (some ⟨w6.heap.size + 1 + 1 + 1 + 1, 0, none⟩) 3 3, .slice (some ⟨w6.heap.size + 1 + 1 + 1 + 1 + 1, 0, none⟩) 2 2] 23)).alloc (.cells #[.int .i64 13, .int .i64 14, .int .i64 15, .int .i64 16, .int .i64 17, .int .i64 18] 32)) := ⟨_, rfl⟩
  have hi : IntS w8 ⟨some ⟨w6.heap.size + 1 + 1, 0, none⟩, 2, 2⟩ [769, 32] := by
   have h0 := ints_new ((w6.alloc (.cells #[.int .i64 97, .int .i64 769, .int .i64 45] 3)).alloc (.cells #[.int .i64 769, .int .i64 45] 3)) [769, 32] 3 (by simp [maxLen])
   have hx : Ext (((w6.alloc (.cells #[.int .i64 97, .int .i64 769, .int .i64 45] 3)).alloc (.cells #[.int .i64 769, .int .i64 45] 3)).alloc (.cells #[.int .i64 769, .int .i64 32] 3)) w8 := by rw [hw8]; exact ((((((Ext.refl _).alloc_ _).alloc_ _).alloc_ _).alloc_ _).alloc_ _)
   have h1 := h0.ext hx
   simpa using h1
  have hx8 : Ext w6 w8 := by rw [hw8]; exact (((((((((Ext.refl _).alloc_ _).alloc_ _).alloc_ _).alloc_ _).alloc_ _).alloc_ _).alloc_ _).alloc_ _)
  have HI := Lib.hid hi
  have HX8 := Lib.hid hx8
  clear hi hx8
  go_wp2_with fail
  rw [← hw8]
  clear hw8
  refine (vawake_spec w8 (HG.out.ext (HX.out.trans' HX8.out))).mono ?_
  rintro e w9 ⟨rfl, hb9⟩
  have HB9 := Lib.hid (HX8.out.trans' hb9)
  have HI9 := Lib.hid (HI.out.ext hb9)
  have rT9 := HRT.out w9 HB9.out
  clear hb9
  go_wp2_with fail
  refine (vcheck_spec voT (voV w) [769, 32] _ 2 2 w9 (HT.out _ HB9.out) HI9.out).mono ?_
  rintro e w10 ⟨rfl, hb10⟩
  rw [vo2]
  have hb := HX.out.trans' (HB9.out.trans' hb10)
  clear hb10 rT9
  go_wp2_with fail
  go_ret
  exact ⟨rfl, hb⟩
 | 3, _ =>
  obtain ⟨w8, hw8⟩ : ∃ w8, w8 = ((((((((w6.alloc (.cells #[.int .i64 97, .int .i64 769, .int .i64 45] 3)).alloc (.cells #[.int .i64 769, .int .i64 45] 3)).alloc (.cells #[.int .i64 769, .int .i64 32] 3)).alloc (.cells #[.int .i64 98, .int .i64 32, .int .i64 8205] 3)).alloc (.cells #[.int .i64 98, .int .i64 8205, .int .i64 183] 3)).alloc (.cells #[.int .i64 98, .int .i64 183] 3)).alloc (.cells #[.slice (some ⟨w6.heap.size, 0, none⟩) 3 3, .slice (some ⟨w6.heap.size + 1, 0, none⟩) 2 2, .slice (some ⟨w6.heap.size + 1 + 1, 0, none⟩) 2 2, .slice (some ⟨w6.heap.size + 1 + 1 + 1, 0, none⟩) 3 3, .slice (some ⟨w6.heap.size + 1 + 1 + 1 + 1, 0, none⟩) 3 3, .slice (some ⟨w6.heap.size + 1 + 1 + 1 + 1 + 1, 0, none⟩) 2 2] 23)).alloc (.cells #[.int .i64 13, .int .i64 14, .int .i64 15, .int .i64 16, .int .i64 17, .int .i64 18] 32)) := ⟨_, rfl⟩
  have hi : IntS w8 ⟨some ⟨w6.heap.size + 1 + 1 + 1, 0, none⟩, 3, 3⟩ [98, 32, 8205] := by
   have h0 := ints_new (((w6.alloc (.cells #[.int .i64 97, .int .i64 769, .int .i64 45] 3)).alloc (.cells #[.int .i64 769, .int .i64 45] 3)).alloc (.cells #[.int .i64 769, .int .i64 32] 3)) [98, 32, 8205] 3 (by simp [maxLen])
   have hx : Ext ((((w6.alloc (.cells #[.int .i64 97, .int .i64 769, .int .i64 45] 3)).alloc (.cells #[.int .i64 769, .int .i64 45] 3)).alloc (.cells #[.int .i64 769, .int .i64 32] 3)).alloc (.cells #[.int .i64 98, .int .i64 32, .int .i64 8205] 3)) w8 := by rw [hw8]; exact (((((Ext.refl _).alloc_ _).alloc_ _).alloc_ _).alloc_ _)
   have h1 := h0.ext hx
   simpa using h1
  have hx8 : Ext w6 w8 := by rw [hw8]; exact (((((((((Ext.refl _).alloc_ _).alloc_ _).alloc_ _).alloc_ _).alloc_ _).alloc_ _).alloc_ _).alloc_ _)
  have HI := Lib.hid hi
  have HX8 := Lib.hid hx8
  clear hi hx8
  go_wp2_with fail
  rw [← hw8]
  clear hw8
  refine (vawake_spec w8 (HG.out.ext (HX.out.trans' HX8.out))).mono ?_
  rintro e w9 ⟨rfl, hb9⟩
  have HB9 := Lib.hid (HX8.out.trans' hb9)
  have HI9 := Lib.hid (HI.out.ext hb9)
  have rT9 := HRT.out w9 HB9.out
  clear hb9
  go_wp2_with fail
  refine (vcheck_spec voT (voV w) [98, 32, 8205] _ 3 3 w9 (HT.out _ HB9.out) HI9.out).mono ?_
  rintro e w10 ⟨rfl, hb10⟩
  rw [vo3]
  have hb := HX.out.trans' (HB9.out.trans' hb10)
  clear hb10 rT9
  go_wp2_with fail
  go_ret
  exact ⟨rfl, hb⟩
 | 4, _ =>
  obtain ⟨w8, hw8⟩ : ∃ w8, w8 = ((((((((w6.alloc (.cells #[.int .i64 97, .int .i64 769, .int .i64 45] 3)).alloc (.cells #[.int .i64 769, .int .i64 45] 3)).alloc (.cells #[.int .i64 769, .int .i64 32] 3)).alloc (.cells #[.int .i64 98, .int .i64 32, .int .i64 8205] 3)).alloc (.cells #[.int .i64 98, .int .i64 8205, .int .i64 183] 3)).alloc (.cells #[.int .i64 98, .int .i64 183] 3)).alloc (.cells #[.slice (some ⟨w6.heap.size, 0, none⟩) 3 3, .slice (some ⟨w6.heap.size + 1, 0, none⟩) 2 2, .slice (some ⟨w6.heap.size + 1 + 1, 0, none⟩) 2 2, .slice (some ⟨w6.heap.size + 1 + 1 + 1, 0, none⟩) 3 3, .slice (some ⟨w6.heap.size + 1 + 1 + 1 + 1, 0, none⟩) 3 3, .slice (some ⟨w6.heap.size + 1 + 1 + 1 + 1 + 1, 0, none⟩) 2 2] 23)).alloc (.cells #[.int .i64 13, .int .i64 14, .int .i64 15, .int .i64 16, .int .i64 17, .int .i64 18] 32)) := ⟨_, rfl⟩
  have hi : IntS w8 ⟨some ⟨w6.heap.size + 1 + 1 + 1 + 1, 0, none⟩, 3, 3⟩ [98, 8205, 183] := by
   have h0 := ints_new ((((w6.alloc (.cells #[.int .i64 97, .int .i64 769, .int .i64 45] 3)).alloc (.cells #[.int .i64 769, .int .i64 45] 3)).alloc (.cells #[.int .i64 769, .int .i64 32] 3)).alloc (.cells #[.int .i64 98, .int .i64 32, .int .i64 8205] 3)) [98, 8205, 183] 3 (by simp [maxLen])
   have hx : Ext (((((w6.alloc (.cells #[.int .i64 97, .int .i64 769, .int .i64 45] 3)).alloc (.cells #[.int .i64 769, .int .i64 45] 3)).alloc (.cells #[.int .i64 769, .int .i64 32] 3)).alloc (.cells #[.int .i64 98, .int .i64 32, .int .i64 8205] 3)).alloc (.cells #[.int .i64 98, .int .i64 8205, .int .i64 183] 3)) w8 := by rw [hw8]; exact ((((Ext.refl _).alloc_ _).alloc_ _).alloc_ _)
   have h1 := h0.ext hx
   simpa using h1
  have hx8 : Ext w6 w8 := by rw [hw8]; exact (((((((((Ext.refl _).alloc_ _).alloc_ _).alloc_ _).alloc_ _).alloc_ _).alloc_ _).alloc_ _).alloc_ _)
  have HI := Lib.hid hi
  have HX8 := Lib.hid hx8
  clear hi hx8
  go_wp2_with fail
  rw [← hw8]
  clear hw8
  refine (vawake_spec w8 (HG.out.ext (HX.out.trans' HX8.out))).mono ?_
  rintro e w9 ⟨rfl, hb9⟩
  have HB9 := Lib.hid (HX8.out.trans' hb9)
  have HI9 := Lib.hid (HI.out.ext hb9)
  have rT9 := HRT.out w9 HB9.out
  clear hb9
  go_wp2_with fail
  refine (vcheck_spec voT (voV w) [98, 8205, 183] _ 3 3 w9 (HT.out _ HB9.out) HI9.out).mono ?_
  rintro e w10 ⟨rfl, hb10⟩
  rw [vo4]
  have hb := HX.out.trans' (HB9.out.trans' hb10)
  clear hb10 rT9
  go_wp2_with fail
  go_ret
  exact ⟨rfl, hb⟩
 | 5, _ =>
  obtain ⟨w8, hw8⟩ : ∃ w8, w8 = ((((((((w6.alloc (.cells #[.int .i64 97, .int .i64 769, .int .i64 45] 3)).alloc (.cells #[.int .i64 769, .int .i64 45] 3)).alloc (.cells #[.int .i64 769, .int .i64 32] 3)).alloc (.cells #[.int .i64 98, .int .i64 32, .int .i64 8205] 3)).alloc (.cells #[.int .i64 98, .int .i64 8205, .int .i64 183] 3)).alloc (.cells #[.int .i64 98, .int .i64 183] 3)).alloc (.cells #[.slice (some ⟨w6.heap.size, 0, none⟩) 3 3, .slice (some ⟨w6.heap.size + 1, 0, none⟩) 2 2, .slice (some ⟨w6.heap.size + 1 + 1, 0, none⟩) 2 2, .slice (some ⟨w6.heap.size + 1 + 1 + 1, 0, none⟩) 3 3, .slice (some ⟨w6.heap.size + 1 + 1 + 1 + 1, 0, none⟩) 3 3, .slice (some ⟨w6.heap.size + 1 + 1 + 1 + 1 + 1, 0, none⟩) 2 2] 23)).alloc (.cells #[.int .i64 13, .int .i64 14, .int .i64 15, .int .i64 16, .int .i64 17, .int .i64 18] 32)) := ⟨_, rfl⟩
  have hi : IntS w8 ⟨some ⟨w6.heap.size + 1 + 1 + 1 + 1 + 1, 0, none⟩, 2, 2⟩ [98, 183] := by
   have h0 := ints_new (((((w6.alloc (.cells #[.int .i64 97, .int .i64 769, .int .i64 45] 3)).alloc (.cells #[.int .i64 769, .int .i64 45] 3)).alloc (.cells #[.int .i64 769, .int .i64 32] 3)).alloc (.cells #[.int .i64 98, .int .i64 32, .int .i64 8205] 3)).alloc (.cells #[.int .i64 98, .int .i64 8205, .int .i64 183] 3)) [98, 183] 3 (by simp [maxLen])
   have hx : Ext ((((((w6.alloc (.cells #[.int .i64 97, .int .i64 769, .int .i64 45] 3)).alloc (.cells #[.int .i64 769, .int .i64 45] 3)).alloc (.cells #[.int .i64 769, .int .i64 32] 3)).alloc (.cells #[.int .i64 98, .int .i64 32, .int .i64 8205] 3)).alloc (.cells #[.int .i64 98, .int .i64 8205, .int .i64 183] 3)).alloc (.cells #[.int .i64 98, .int .i64 183] 3)) w8 := by rw [hw8]; exact (((Ext.refl _).alloc_ _).alloc_ _)
   have h1 := h0.ext hx
   simpa using h1
  have hx8 : Ext w6 w8 := by rw [hw8]; exact (((((((((Ext.refl _).alloc_ _).alloc_ _).alloc_ _).alloc_ _).alloc_ _).alloc_ _).alloc_ _).alloc_ _)
  have HI := Lib.hid hi
  have HX8 := Lib.hid hx8
  clear hi hx8
  go_wp2_with fail
  rw [← hw8]
  clear hw8
  refine (vawake_spec w8 (HG.out.ext (HX.out.trans' HX8.out))).mono ?_
  rintro e w9 ⟨rfl, hb9⟩
  have HB9 := Lib.hid (HX8.out.trans' hb9)
  have HI9 := Lib.hid (HI.out.ext hb9)
  have rT9 := HRT.out w9 HB9.out
  clear hb9
  go_wp2_with fail
  refine (vcheck_spec voT (voV w) [98, 183] _ 2 2 w9 (HT.out _ HB9.out) HI9.out).mono ?_
  rintro e w10 ⟨rfl, hb10⟩
  rw [vo5]
  have hb := HX.out.trans' (HB9.out.trans' hb10)
  clear hb10 rT9
  go_wp2_with fail
  go_ret
  exact ⟨rfl, hb⟩
 | n + 6, h => exact absurd h (by omega)
end Go.Proofs.YtbdabjhankgcmaaDoor
