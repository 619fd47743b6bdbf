/- Walks: Composable. (The cases by program: comp_gen.py.). Walks: Composable whole, rules 8 and 9. -/
import Derived.Test.YtbdabjhankgcmaaGreatDoorGd
import Derived.Test.YtbdabjhankgcmaaGreatDoorGa
import Derived.Deep.RegionHeld3
namespace Go.Proofs.YtbdabjhankgcmaaGreatDoor
open Go.RowKit
theorem ext2_a {w : World} {cs : Array Value} {ty : TypeId} {o : Obj} {w' : World} (h : Ext ((w.alloc (.cells cs ty)).alloc o) w') (k : Nat) : w'.cell? ⟨w.heap.size, k, none⟩ = cs[k]? := by
 have h2 : Ext (w.alloc (.cells cs ty)) w' := ((Ext.refl _).alloc_ o).trans' h
 exact box_at h2 k
theorem ext2_b {w : World} {cs : Array Value} {ty : TypeId} {o : Obj} {w' : World} (h : Ext ((w.alloc o).alloc (.cells cs ty)) w') (k : Nat) : w'.cell? ⟨w.heap.size + 1, k, none⟩ = cs[k]? := by
 have h2 := box_at h k
 rwa [show (w.alloc o).heap.size = w.heap.size + 1 from by simp] at h2
section
variable (w : World) (t : TV) (lo : Int) (b5 : Nat) (o5 : Nat) (q : Nat)
theorem cw_b : Ext w ((w.alloc (.cells #[.slice t.s0.a t.s0.n t.s0.c, .slice t.s1.a t.s1.n t.s1.c, .slice t.s2.a t.s2.n t.s2.c, .slice t.s3.a t.s3.n t.s3.c, .slice t.s4.a t.s4.n t.s4.c, .slice t.s5.a t.s5.n t.s5.c, .slice t.s6.a t.s6.n t.s6.c, .slice t.s7.a t.s7.n t.s7.c, .slice t.s8.a t.s8.n t.s8.c, .slice t.s9.a t.s9.n t.s9.c, .slice t.s10.a t.s10.n t.s10.c, .slice t.s11.a t.s11.n t.s11.c] 26)).alloc (.cells #[.int .i64 lo, .slice (some ⟨b5, o5, none⟩) 2 q] 74)) := ((Ext.refl _).alloc_ _).alloc_ _
theorem cw_T : ∀ yy : ExtW ((w.alloc (.cells #[.slice t.s0.a t.s0.n t.s0.c, .slice t.s1.a t.s1.n t.s1.c, .slice t.s2.a t.s2.n t.s2.c, .slice t.s3.a t.s3.n t.s3.c, .slice t.s4.a t.s4.n t.s4.c, .slice t.s5.a t.s5.n t.s5.c, .slice t.s6.a t.s6.n t.s6.c, .slice t.s7.a t.s7.n t.s7.c, .slice t.s8.a t.s8.n t.s8.c, .slice t.s9.a t.s9.n t.s9.c, .slice t.s10.a t.s10.n t.s10.c, .slice t.s11.a t.s11.n t.s11.c] 26)).alloc (.cells #[.int .i64 lo, .slice (some ⟨b5, o5, none⟩) 2 q] 74)), ∀ k : Nat, yy.w.cell? ⟨w.heap.size, k, none⟩ = (#[.slice t.s0.a t.s0.n t.s0.c, .slice t.s1.a t.s1.n t.s1.c, .slice t.s2.a t.s2.n t.s2.c, .slice t.s3.a t.s3.n t.s3.c, .slice t.s4.a t.s4.n t.s4.c, .slice t.s5.a t.s5.n t.s5.c, .slice t.s6.a t.s6.n t.s6.c, .slice t.s7.a t.s7.n t.s7.c, .slice t.s8.a t.s8.n t.s8.c, .slice t.s9.a t.s9.n t.s9.c, .slice t.s10.a t.s10.n t.s10.c, .slice t.s11.a t.s11.n t.s11.c] : Array Value)[k]? := fun yy => ext2_a ((Ext.refl _).trans' yy.h)
theorem cw_M : ∀ yy : ExtW ((w.alloc (.cells #[.slice t.s0.a t.s0.n t.s0.c, .slice t.s1.a t.s1.n t.s1.c, .slice t.s2.a t.s2.n t.s2.c, .slice t.s3.a t.s3.n t.s3.c, .slice t.s4.a t.s4.n t.s4.c, .slice t.s5.a t.s5.n t.s5.c, .slice t.s6.a t.s6.n t.s6.c, .slice t.s7.a t.s7.n t.s7.c, .slice t.s8.a t.s8.n t.s8.c, .slice t.s9.a t.s9.n t.s9.c, .slice t.s10.a t.s10.n t.s10.c, .slice t.s11.a t.s11.n t.s11.c] 26)).alloc (.cells #[.int .i64 lo, .slice (some ⟨b5, o5, none⟩) 2 q] 74)), ∀ k : Nat, yy.w.cell? ⟨w.heap.size + 1, k, none⟩ = (#[.int .i64 lo, .slice (some ⟨b5, o5, none⟩) 2 q] : Array Value)[k]? := fun yy => ext2_b ((Ext.refl _).trans' yy.h)
theorem cw_A {o : Nat} {x : Int} (ga : w.cell? ⟨b5, o, none⟩ = some (.int .i64 x)) : ∀ yy : ExtW ((w.alloc (.cells #[.slice t.s0.a t.s0.n t.s0.c, .slice t.s1.a t.s1.n t.s1.c, .slice t.s2.a t.s2.n t.s2.c, .slice t.s3.a t.s3.n t.s3.c, .slice t.s4.a t.s4.n t.s4.c, .slice t.s5.a t.s5.n t.s5.c, .slice t.s6.a t.s6.n t.s6.c, .slice t.s7.a t.s7.n t.s7.c, .slice t.s8.a t.s8.n t.s8.c, .slice t.s9.a t.s9.n t.s9.c, .slice t.s10.a t.s10.n t.s10.c, .slice t.s11.a t.s11.n t.s11.c] 26)).alloc (.cells #[.int .i64 lo, .slice (some ⟨b5, o5, none⟩) 2 q] 74)), yy.w.cell? ⟨b5, o, none⟩ = some (.int .i64 x) := fun yy => keep_cell (ext_keep ((cw_b w t lo b5 o5 q).trans' yy.h)) ga
variable {w t lo b5 o5 q} {w1 : World}
theorem cx_T (h : Ext ((w.alloc (.cells #[.slice t.s0.a t.s0.n t.s0.c, .slice t.s1.a t.s1.n t.s1.c, .slice t.s2.a t.s2.n t.s2.c, .slice t.s3.a t.s3.n t.s3.c, .slice t.s4.a t.s4.n t.s4.c, .slice t.s5.a t.s5.n t.s5.c, .slice t.s6.a t.s6.n t.s6.c, .slice t.s7.a t.s7.n t.s7.c, .slice t.s8.a t.s8.n t.s8.c, .slice t.s9.a t.s9.n t.s9.c, .slice t.s10.a t.s10.n t.s10.c, .slice t.s11.a t.s11.n t.s11.c] 26)).alloc (.cells #[.int .i64 lo, .slice (some ⟨b5, o5, none⟩) 2 q] 74)) w1) : ∀ yy : ExtW w1, ∀ k : Nat, yy.w.cell? ⟨w.heap.size, k, none⟩ = (#[.slice t.s0.a t.s0.n t.s0.c, .slice t.s1.a t.s1.n t.s1.c, .slice t.s2.a t.s2.n t.s2.c, .slice t.s3.a t.s3.n t.s3.c, .slice t.s4.a t.s4.n t.s4.c, .slice t.s5.a t.s5.n t.s5.c, .slice t.s6.a t.s6.n t.s6.c, .slice t.s7.a t.s7.n t.s7.c, .slice t.s8.a t.s8.n t.s8.c, .slice t.s9.a t.s9.n t.s9.c, .slice t.s10.a t.s10.n t.s10.c, .slice t.s11.a t.s11.n t.s11.c] : Array Value)[k]? := fun yy => ext2_a (h.trans' yy.h)
theorem cx_M (h : Ext ((w.alloc (.cells #[.slice t.s0.a t.s0.n t.s0.c, .slice t.s1.a t.s1.n t.s1.c, .slice t.s2.a t.s2.n t.s2.c, .slice t.s3.a t.s3.n t.s3.c, .slice t.s4.a t.s4.n t.s4.c, .slice t.s5.a t.s5.n t.s5.c, .slice t.s6.a t.s6.n t.s6.c, .slice t.s7.a t.s7.n t.s7.c, .slice t.s8.a t.s8.n t.s8.c, .slice t.s9.a t.s9.n t.s9.c, .slice t.s10.a t.s10.n t.s10.c, .slice t.s11.a t.s11.n t.s11.c] 26)).alloc (.cells #[.int .i64 lo, .slice (some ⟨b5, o5, none⟩) 2 q] 74)) w1) : ∀ yy : ExtW w1, ∀ k : Nat, yy.w.cell? ⟨w.heap.size + 1, k, none⟩ = (#[.int .i64 lo, .slice (some ⟨b5, o5, none⟩) 2 q] : Array Value)[k]? := fun yy => ext2_b (h.trans' yy.h)
theorem cx_A {o : Nat} {x : Int} (h : Ext w w1) (ga : w.cell? ⟨b5, o, none⟩ = some (.int .i64 x)) : ∀ yy : ExtW w1, yy.w.cell? ⟨b5, o, none⟩ = some (.int .i64 x) := fun yy => keep_cell (ext_keep (h.trans' yy.h)) ga
end
theorem excluded_lit {t : TV} {T : Tbl} {c : Int} {w : World} {b : Bool} (hb : exHas T.exc c = b) (ht : TblS w t T) (hs : Srt T) :
  Calls Tryz.prog 147 #[t.v, .int .i64 c] w fun e w' => e = .returned (.bool b) ∧ Ext w w' := by
 subst hb
 exact excluded_look t T c w ht hs.exc.1 hs.exc.2
set_option maxHeartbeats 1600000 in
set_option maxRecDepth 100000 in
theorem comp_short (t : TV) (lo : Int) (A : Option Addr) (n q : Nat) (w : World) (hl : n ≠ 2) :
  Calls Tryz.prog 108 #[t.v, .agg #[.int .i64 lo, .slice A n q]] w fun e w' => e = .returned (.bool false) ∧ Ext w w' := by
 have hl2 : ((n : Int) != 2) = true := by rw [bne_iff_ne]; omega
 clear hl
 have hbW : Ext w ((w.alloc (.cells #[.slice t.s0.a t.s0.n t.s0.c, .slice t.s1.a t.s1.n t.s1.c, .slice t.s2.a t.s2.n t.s2.c, .slice t.s3.a t.s3.n t.s3.c, .slice t.s4.a t.s4.n t.s4.c, .slice t.s5.a t.s5.n t.s5.c, .slice t.s6.a t.s6.n t.s6.c, .slice t.s7.a t.s7.n t.s7.c, .slice t.s8.a t.s8.n t.s8.c, .slice t.s9.a t.s9.n t.s9.c, .slice t.s10.a t.s10.n t.s10.c, .slice t.s11.a t.s11.n t.s11.c] 26)).alloc (.cells #[.int .i64 lo, .slice A n q] 74)) := ((Ext.refl _).alloc_ _).alloc_ _
 have rT : ∀ x : ExtW ((w.alloc (.cells #[.slice t.s0.a t.s0.n t.s0.c, .slice t.s1.a t.s1.n t.s1.c, .slice t.s2.a t.s2.n t.s2.c, .slice t.s3.a t.s3.n t.s3.c, .slice t.s4.a t.s4.n t.s4.c, .slice t.s5.a t.s5.n t.s5.c, .slice t.s6.a t.s6.n t.s6.c, .slice t.s7.a t.s7.n t.s7.c, .slice t.s8.a t.s8.n t.s8.c, .slice t.s9.a t.s9.n t.s9.c, .slice t.s10.a t.s10.n t.s10.c, .slice t.s11.a t.s11.n t.s11.c] 26)).alloc (.cells #[.int .i64 lo, .slice A n q] 74)), ∀ k : Nat, x.w.cell? ⟨w.heap.size, k, none⟩ = (#[.slice t.s0.a t.s0.n t.s0.c, .slice t.s1.a t.s1.n t.s1.c, .slice t.s2.a t.s2.n t.s2.c, .slice t.s3.a t.s3.n t.s3.c, .slice t.s4.a t.s4.n t.s4.c, .slice t.s5.a t.s5.n t.s5.c, .slice t.s6.a t.s6.n t.s6.c, .slice t.s7.a t.s7.n t.s7.c, .slice t.s8.a t.s8.n t.s8.c, .slice t.s9.a t.s9.n t.s9.c, .slice t.s10.a t.s10.n t.s10.c, .slice t.s11.a t.s11.n t.s11.c] : Array Value)[k]? := fun x => ext2_a x.h
 have rM : ∀ x : ExtW ((w.alloc (.cells #[.slice t.s0.a t.s0.n t.s0.c, .slice t.s1.a t.s1.n t.s1.c, .slice t.s2.a t.s2.n t.s2.c, .slice t.s3.a t.s3.n t.s3.c, .slice t.s4.a t.s4.n t.s4.c, .slice t.s5.a t.s5.n t.s5.c, .slice t.s6.a t.s6.n t.s6.c, .slice t.s7.a t.s7.n t.s7.c, .slice t.s8.a t.s8.n t.s8.c, .slice t.s9.a t.s9.n t.s9.c, .slice t.s10.a t.s10.n t.s10.c, .slice t.s11.a t.s11.n t.s11.c] 26)).alloc (.cells #[.int .i64 lo, .slice A n q] 74)), ∀ k : Nat, x.w.cell? ⟨w.heap.size + 1, k, none⟩ = (#[.int .i64 lo, .slice A n q] : Array Value)[k]? := fun x => ext2_b x.h
 go_enter Tryz.func108, Tryz.ntmps108
 go_wp2_with fail
 refine region_ext (by kernel_rfl) (by kernel_rfl) ?_
 repeat (go_big_quiet_step (fail))
 refine wpQuiet_nil ?_
 rintro _ ⟨x, rfl⟩
 go_wp2
 go_ret
 exact ⟨rfl, hbW.trans' x.h⟩
set_option maxHeartbeats 3200000 in
set_option maxRecDepth 100000 in
theorem comp_c1 (t : TV) (T : Tbl) (lo a b : Int) (A : Option Addr) (n q : Nat) (w : World) (ht : TblS w t T) (hs : Srt T) (_ : NonEs T) (hF : FinD T.dec) (hz : IntS w ⟨A, n, q⟩ [a, b])
  (hE : exHas T.exc lo = true) :
  Calls Tryz.prog 108 #[t.v, .agg #[.int .i64 lo, .slice A n q]] w fun e w' => e = .returned (.bool false) ∧ Ext w w' := by
 obtain rfl : n = 2 := hz.len.1
 obtain ⟨b5, o5, ha, ga⟩ := hz.at_ (i := 0) (by simp)
 obtain ⟨b6, o6, ha6, gb⟩ := hz.at_ (i := 1) (by simp)
 rw [ha] at ha6
 injection ha6 with ha6
 injection ha6 with e1 e2
 subst e1 e2
 subst ha
 simp only [Nat.add_zero, List.getElem_cons_zero, List.getElem_cons_succ] at ga gb
 clear hz
 have HFin := Lib.hid hF
 have HE := Lib.hid hE
 clear hE
 have HT := Lib.hid ht
 clear hF ht
 have hbW := cw_b w t lo b5 o5 q
 have rT0 := cw_T w t lo b5 o5 q
 have rM0 := cw_M w t lo b5 o5 q
 have rA0 := cw_A w t lo b5 o5 q ga
 have rB0 := cw_A w t lo b5 o5 q gb
 go_enter Tryz.func108, Tryz.ntmps108
 go_wp2_with fail
 refine region_ext (by kernel_rfl) (by kernel_rfl) ?_
 repeat (go_big_quiet_step (first | (go_at_call 147; exact quiet_ext (excluded_lit HE.out (HT.out.ext_ (hbW.trans' (ExtW.h _))) hs)) | (go_at_call 66; with_reducible exact quiet_ext (class_spec t T lo _ (HT.out.ext_ (hbW.trans' (ExtW.h _))) hs)) | (go_at_call 66; with_reducible exact quiet_ext (class_spec t T a _ (HT.out.ext_ (hbW.trans' (ExtW.h _))) hs)) | (go_at_call 146; with_reducible exact quiet_ext (HFB.out _ (hbW.trans' (ExtW.h _))))))
 refine wpQuiet_nil ?_
 rintro _ ⟨x, rfl⟩
 go_wp2
 go_ret
 exact ⟨rfl, hbW.trans' x.h⟩
set_option maxHeartbeats 3200000 in
set_option maxRecDepth 100000 in
theorem comp_c2 (t : TV) (T : Tbl) (lo a b : Int) (A : Option Addr) (n q : Nat) (w : World) (ht : TblS w t T) (hs : Srt T) (_ : NonEs T) (hF : FinD T.dec) (hz : IntS w ⟨A, n, q⟩ [a, b])
  (hE : exHas T.exc lo = false) (c1 : (clsT T lo != 0) = true) :
  Calls Tryz.prog 108 #[t.v, .agg #[.int .i64 lo, .slice A n q]] w fun e w' => e = .returned (.bool false) ∧ Ext w w' := by
 obtain rfl : n = 2 := hz.len.1
 obtain ⟨b5, o5, ha, ga⟩ := hz.at_ (i := 0) (by simp)
 obtain ⟨b6, o6, ha6, gb⟩ := hz.at_ (i := 1) (by simp)
 rw [ha] at ha6
 injection ha6 with ha6
 injection ha6 with e1 e2
 subst e1 e2
 subst ha
 simp only [Nat.add_zero, List.getElem_cons_zero, List.getElem_cons_succ] at ga gb
 clear hz
 have HFin := Lib.hid hF
 have HE := Lib.hid hE
 clear hE
 have HT := Lib.hid ht
 clear hF ht
 have hbW := cw_b w t lo b5 o5 q
 have rT0 := cw_T w t lo b5 o5 q
 have rM0 := cw_M w t lo b5 o5 q
 have rA0 := cw_A w t lo b5 o5 q ga
 have rB0 := cw_A w t lo b5 o5 q gb
 go_enter Tryz.func108, Tryz.ntmps108
 go_wp2_with fail
 refine region_ext (by kernel_rfl) (by kernel_rfl) ?_
 repeat (go_big_quiet_step (first | (go_at_call 147; exact quiet_ext (excluded_lit HE.out (HT.out.ext_ (hbW.trans' (ExtW.h _))) hs)) | (go_at_call 66; with_reducible exact quiet_ext (class_spec t T lo _ (HT.out.ext_ (hbW.trans' (ExtW.h _))) hs)) | (go_at_call 66; with_reducible exact quiet_ext (class_spec t T a _ (HT.out.ext_ (hbW.trans' (ExtW.h _))) hs)) | (go_at_call 146; with_reducible exact quiet_ext (HFB.out _ (hbW.trans' (ExtW.h _))))))
 refine wpQuiet_nil ?_
 rintro _ ⟨x, rfl⟩
 go_wp2
 go_ret
 exact ⟨rfl, hbW.trans' x.h⟩
set_option maxHeartbeats 3200000 in
set_option maxRecDepth 100000 in
theorem comp_c3 (t : TV) (T : Tbl) (lo a b : Int) (A : Option Addr) (n q : Nat) (w : World) (ht : TblS w t T) (hs : Srt T) (_ : NonEs T) (hF : FinD T.dec) (hz : IntS w ⟨A, n, q⟩ [a, b])
  (hE : exHas T.exc lo = false) (c1 : (clsT T lo != 0) = false) (c2 : (clsT T a != 0) = true) :
  Calls Tryz.prog 108 #[t.v, .agg #[.int .i64 lo, .slice A n q]] w fun e w' => e = .returned (.bool false) ∧ Ext w w' := by
 obtain rfl : n = 2 := hz.len.1
 obtain ⟨b5, o5, ha, ga⟩ := hz.at_ (i := 0) (by simp)
 obtain ⟨b6, o6, ha6, gb⟩ := hz.at_ (i := 1) (by simp)
 rw [ha] at ha6
 injection ha6 with ha6
 injection ha6 with e1 e2
 subst e1 e2
 subst ha
 simp only [Nat.add_zero, List.getElem_cons_zero, List.getElem_cons_succ] at ga gb
 clear hz
 have HFin := Lib.hid hF
 have HE := Lib.hid hE
 clear hE
 have HT := Lib.hid ht
 clear hF ht
 have hbW := cw_b w t lo b5 o5 q
 have rT0 := cw_T w t lo b5 o5 q
 have rM0 := cw_M w t lo b5 o5 q
 have rA0 := cw_A w t lo b5 o5 q ga
 have rB0 := cw_A w t lo b5 o5 q gb
 go_enter Tryz.func108, Tryz.ntmps108
 go_wp2_with fail
 refine region_ext (by kernel_rfl) (by kernel_rfl) ?_
 repeat (go_big_quiet_step (first | (go_at_call 147; exact quiet_ext (excluded_lit HE.out (HT.out.ext_ (hbW.trans' (ExtW.h _))) hs)) | (go_at_call 66; with_reducible exact quiet_ext (class_spec t T lo _ (HT.out.ext_ (hbW.trans' (ExtW.h _))) hs)) | (go_at_call 66; with_reducible exact quiet_ext (class_spec t T a _ (HT.out.ext_ (hbW.trans' (ExtW.h _))) hs)) | (go_at_call 146; with_reducible exact quiet_ext (HFB.out _ (hbW.trans' (ExtW.h _))))))
 refine wpQuiet_nil ?_
 rintro _ ⟨x, rfl⟩
 go_wp2
 go_ret
 exact ⟨rfl, hbW.trans' x.h⟩
set_option maxHeartbeats 3200000 in
set_option maxRecDepth 100000 in
theorem comp_c4 (t : TV) (T : Tbl) (lo a b : Int) (A : Option Addr) (n q : Nat) (w : World) (ht : TblS w t T) (hs : Srt T) (_ : NonEs T) (hF : FinD T.dec) (hz : IntS w ⟨A, n, q⟩ [a, b])
  (hE : exHas T.exc lo = false) (c1 : (clsT T lo != 0) = false) (c2 : (clsT T a != 0) = false) (b7 o7 zbn zbc : Nat) (hfb : FindAt w t.s9 b ⟨some ⟨b7, o7, none⟩, zbn, zbc⟩) :
  Calls Tryz.prog 108 #[t.v, .agg #[.int .i64 lo, .slice A n q]] w fun e w' => e = .returned (.bool false) ∧ Ext w w' := by
 obtain rfl : n = 2 := hz.len.1
 obtain ⟨b5, o5, ha, ga⟩ := hz.at_ (i := 0) (by simp)
 obtain ⟨b6, o6, ha6, gb⟩ := hz.at_ (i := 1) (by simp)
 rw [ha] at ha6
 injection ha6 with ha6
 injection ha6 with e1 e2
 subst e1 e2
 subst ha
 simp only [Nat.add_zero, List.getElem_cons_zero, List.getElem_cons_succ] at ga gb
 clear hz
 have HFin := Lib.hid hF
 have HE := Lib.hid hE
 clear hE
 have HFB := Lib.hid hfb
 clear hfb
 have HT := Lib.hid ht
 clear hF ht
 have hbW := cw_b w t lo b5 o5 q
 have rT0 := cw_T w t lo b5 o5 q
 have rM0 := cw_M w t lo b5 o5 q
 have rA0 := cw_A w t lo b5 o5 q ga
 have rB0 := cw_A w t lo b5 o5 q gb
 go_enter Tryz.func108, Tryz.ntmps108
 go_wp2_with fail
 refine region_ext (by kernel_rfl) (by kernel_rfl) ?_
 repeat (go_big_quiet_step (first | (go_at_call 147; exact quiet_ext (excluded_lit HE.out (HT.out.ext_ (hbW.trans' (ExtW.h _))) hs)) | (go_at_call 66; with_reducible exact quiet_ext (class_spec t T lo _ (HT.out.ext_ (hbW.trans' (ExtW.h _))) hs)) | (go_at_call 66; with_reducible exact quiet_ext (class_spec t T a _ (HT.out.ext_ (hbW.trans' (ExtW.h _))) hs)) | (go_at_call 146; with_reducible exact quiet_ext (HFB.out _ (hbW.trans' (ExtW.h _))))))
 refine wpQuiet_nil ?_
 rintro _ ⟨x, rfl⟩
 go_wp2
 go_ret
 exact ⟨rfl, hbW.trans' x.h⟩
set_option maxHeartbeats 3200000 in
set_option maxRecDepth 100000 in
theorem comp_c5 (t : TV) (T : Tbl) (lo a b : Int) (A : Option Addr) (n q : Nat) (w : World) (ht : TblS w t T) (hs : Srt T) (_ : NonEs T) (hF : FinD T.dec) (hz : IntS w ⟨A, n, q⟩ [a, b])
  (hE : exHas T.exc lo = false) (c1 : (clsT T lo != 0) = false) (c2 : (clsT T a != 0) = false) (hfb : FindAt w t.s9 b ⟨none, 0, 0⟩) (b8 o8 zan zac : Nat) (hfa : FindAt w t.s9 a ⟨some ⟨b8, o8, none⟩, zan, zac⟩) (ih : ∀ w', Ext w w' → Calls Tryz.prog 108 #[t.v, .agg #[.int .i64 a, .slice (some ⟨b8, o8, none⟩) zan zac]] w' fun e w'' => e = .returned (.bool false) ∧ Ext w' w'') :
  Calls Tryz.prog 108 #[t.v, .agg #[.int .i64 lo, .slice A n q]] w fun e w' => e = .returned (.bool false) ∧ Ext w w' := by
 obtain rfl : n = 2 := hz.len.1
 obtain ⟨b5, o5, ha, ga⟩ := hz.at_ (i := 0) (by simp)
 obtain ⟨b6, o6, ha6, gb⟩ := hz.at_ (i := 1) (by simp)
 rw [ha] at ha6
 injection ha6 with ha6
 injection ha6 with e1 e2
 subst e1 e2
 subst ha
 simp only [Nat.add_zero, List.getElem_cons_zero, List.getElem_cons_succ] at ga gb
 clear hz
 have HFin := Lib.hid hF
 have HE := Lib.hid hE
 clear hE
 have HFB := Lib.hid hfb
 clear hfb
 have HFA := Lib.hid hfa
 clear hfa
 have IH := Lib.hid ih
 clear ih
 have HT := Lib.hid ht
 clear hF ht
 have hbW := cw_b w t lo b5 o5 q
 have rT0 := cw_T w t lo b5 o5 q
 have rM0 := cw_M w t lo b5 o5 q
 have rA0 := cw_A w t lo b5 o5 q ga
 have rB0 := cw_A w t lo b5 o5 q gb
 go_enter Tryz.func108, Tryz.ntmps108
 go_wp2_with fail
 refine region_ext (by kernel_rfl) (by kernel_rfl) ?_
 repeat (go_big_quiet_step (first | (go_at_call 147; exact quiet_ext (excluded_lit HE.out (HT.out.ext_ (hbW.trans' (ExtW.h _))) hs)) | (go_at_call 66; with_reducible exact quiet_ext (class_spec t T lo _ (HT.out.ext_ (hbW.trans' (ExtW.h _))) hs)) | (go_at_call 66; with_reducible exact quiet_ext (class_spec t T a _ (HT.out.ext_ (hbW.trans' (ExtW.h _))) hs)) | (go_at_call 146; with_reducible exact quiet_ext (HFB.out _ (hbW.trans' (ExtW.h _))))))
 refine wpQuiet_nil ?_
 rintro _ ⟨x, rfl⟩
 have HX : Ext w x.w := hbW.trans' x.h
 have rTx := cx_T (x.h)
 have rMx := cx_M (x.h)
 have rAx := cx_A HX ga
 have rBx := cx_A HX gb
 go_wp2_with fail
 refine region_ext (by kernel_rfl) (by kernel_rfl) ?_
 repeat (go_big_quiet_step ((go_at_call 146; with_reducible exact quiet_ext (HFA.out _ (HX.trans' (ExtW.h _))))))
 refine wpQuiet_nil ?_
 rintro _ ⟨y, rfl⟩
 have HY : Ext w y.w := HX.trans' y.h
 clear rT0 rM0 rA0 rB0 rTx rMx rAx rBx
 have rTy := cx_T (x.h.trans' y.h)
 have rMy := cx_M (x.h.trans' y.h)
 have rAy := cx_A HY ga
 have rBy := cx_A HY gb
 go_wp2_with fail
 refine region_ext (by kernel_rfl) (by kernel_rfl) ?_
 repeat (go_big_quiet_step ((go_at_call 108; with_reducible exact quiet_ext (IH.out _ (HY.trans' (ExtW.h _))))))
 refine wpQuiet_nil ?_
 rintro _ ⟨z, rfl⟩
 have HZ : Ext w z.w := HY.trans' z.h
 clear rTy rMy rAy rBy
 go_wp2
 go_ret
 exact ⟨rfl, HZ⟩
set_option maxHeartbeats 3200000 in
set_option maxRecDepth 100000 in
theorem comp_c6 (t : TV) (T : Tbl) (lo a b : Int) (A : Option Addr) (n q : Nat) (w : World) (ht : TblS w t T) (hs : Srt T) (_ : NonEs T) (hF : FinD T.dec) (hz : IntS w ⟨A, n, q⟩ [a, b])
  (hE : exHas T.exc lo = false) (c1 : (clsT T lo != 0) = false) (c2 : (clsT T a != 0) = false) (hfb : FindAt w t.s9 b ⟨none, 0, 0⟩) (hfa : FindAt w t.s9 a ⟨none, 0, 0⟩) (c3 : (clsT T b == 0) = true) :
  Calls Tryz.prog 108 #[t.v, .agg #[.int .i64 lo, .slice A n q]] w fun e w' => e = .returned (.bool true) ∧ Ext w w' := by
 obtain rfl : n = 2 := hz.len.1
 obtain ⟨b5, o5, ha, ga⟩ := hz.at_ (i := 0) (by simp)
 obtain ⟨b6, o6, ha6, gb⟩ := hz.at_ (i := 1) (by simp)
 rw [ha] at ha6
 injection ha6 with ha6
 injection ha6 with e1 e2
 subst e1 e2
 subst ha
 simp only [Nat.add_zero, List.getElem_cons_zero, List.getElem_cons_succ] at ga gb
 clear hz
 have HFin := Lib.hid hF
 have HE := Lib.hid hE
 clear hE
 have HFB := Lib.hid hfb
 clear hfb
 have HFA := Lib.hid hfa
 clear hfa
 have HT := Lib.hid ht
 clear hF ht
 have hbW := cw_b w t lo b5 o5 q
 have rT0 := cw_T w t lo b5 o5 q
 have rM0 := cw_M w t lo b5 o5 q
 have rA0 := cw_A w t lo b5 o5 q ga
 have rB0 := cw_A w t lo b5 o5 q gb
 go_enter Tryz.func108, Tryz.ntmps108
 go_wp2_with fail
 refine region_ext (by kernel_rfl) (by kernel_rfl) ?_
 repeat (go_big_quiet_step (first | (go_at_call 147; exact quiet_ext (excluded_lit HE.out (HT.out.ext_ (hbW.trans' (ExtW.h _))) hs)) | (go_at_call 66; with_reducible exact quiet_ext (class_spec t T lo _ (HT.out.ext_ (hbW.trans' (ExtW.h _))) hs)) | (go_at_call 66; with_reducible exact quiet_ext (class_spec t T a _ (HT.out.ext_ (hbW.trans' (ExtW.h _))) hs)) | (go_at_call 146; with_reducible exact quiet_ext (HFB.out _ (hbW.trans' (ExtW.h _))))))
 refine wpQuiet_nil ?_
 rintro _ ⟨x, rfl⟩
 have HX : Ext w x.w := hbW.trans' x.h
 have rTx := cx_T (x.h)
 have rMx := cx_M (x.h)
 have rAx := cx_A HX ga
 have rBx := cx_A HX gb
 go_wp2_with fail
 refine region_ext (by kernel_rfl) (by kernel_rfl) ?_
 repeat (go_big_quiet_step ((go_at_call 146; with_reducible exact quiet_ext (HFA.out _ (HX.trans' (ExtW.h _))))))
 refine wpQuiet_nil ?_
 rintro _ ⟨y, rfl⟩
 have HY : Ext w y.w := HX.trans' y.h
 clear rT0 rM0 rA0 rB0 rTx rMx rAx rBx
 have rTy := cx_T (x.h.trans' y.h)
 have rMy := cx_M (x.h.trans' y.h)
 have rAy := cx_A HY ga
 have rBy := cx_A HY gb
 go_wp2_with fail
 refine region_ext (by kernel_rfl) (by kernel_rfl) ?_
 repeat (go_big_quiet_step (fail))
 refine wpQuiet_nil ?_
 rintro _ ⟨z, rfl⟩
 have HZ : Ext w z.w := HY.trans' z.h
 clear rTy rMy rAy rBy
 have rTz := cx_T ((x.h.trans' y.h).trans' z.h)
 have rMz := cx_M ((x.h.trans' y.h).trans' z.h)
 have rAz := cx_A HZ ga
 have rBz := cx_A HZ gb
 go_wp2_with fail
 refine region_ext (by kernel_rfl) (by kernel_rfl) ?_
 repeat (go_big_quiet_step ((go_at_call 66; with_reducible exact quiet_ext (class_spec t T b _ (HT.out.ext_ (HZ.trans' (ExtW.h _))) hs))))
 refine wpQuiet_nil ?_
 rintro _ ⟨u, rfl⟩
 have HU : Ext w u.w := HZ.trans' u.h
 clear rTz rMz rAz rBz
 have rTu := cx_T (((x.h.trans' y.h).trans' z.h).trans' u.h)
 have rMu := cx_M (((x.h.trans' y.h).trans' z.h).trans' u.h)
 have rAu := cx_A HU ga
 have rBu := cx_A HU gb
 go_wp2_with fail
 refine region_ext (by kernel_rfl) (by kernel_rfl) ?_
 repeat (go_big_quiet_step (fail))
 refine wpQuiet_nil ?_
 rintro _ ⟨v, rfl⟩
 go_wp2
 go_ret
 exact ⟨rfl, HU.trans' v.h⟩
set_option maxHeartbeats 3200000 in
set_option maxRecDepth 100000 in
theorem comp_c7 (t : TV) (T : Tbl) (lo a b : Int) (A : Option Addr) (n q : Nat) (w : World) (ht : TblS w t T) (hs : Srt T) (hn : NonEs T) (hF : FinD T.dec) (hz : IntS w ⟨A, n, q⟩ [a, b])
  (hE : exHas T.exc lo = false) (c1 : (clsT T lo != 0) = false) (c2 : (clsT T a != 0) = false) (hfb : FindAt w t.s9 b ⟨none, 0, 0⟩) (hfa : FindAt w t.s9 a ⟨none, 0, 0⟩) (c3 : (clsT T b == 0) = false) :
  Calls Tryz.prog 108 #[t.v, .agg #[.int .i64 lo, .slice A n q]] w fun e w' => e = .returned (.bool (decide (clsT T (lastT T.dec a) ≤ clsT T b))) ∧ Ext w w' := by
 obtain rfl : n = 2 := hz.len.1
 obtain ⟨b5, o5, ha, ga⟩ := hz.at_ (i := 0) (by simp)
 obtain ⟨b6, o6, ha6, gb⟩ := hz.at_ (i := 1) (by simp)
 rw [ha] at ha6
 injection ha6 with ha6
 injection ha6 with e1 e2
 subst e1 e2
 subst ha
 simp only [Nat.add_zero, List.getElem_cons_zero, List.getElem_cons_succ] at ga gb
 clear hz
 have HFin := Lib.hid hF
 have HE := Lib.hid hE
 clear hE
 have HFB := Lib.hid hfb
 clear hfb
 have HFA := Lib.hid hfa
 clear hfa
 have HT := Lib.hid ht
 clear hF ht
 have hbW := cw_b w t lo b5 o5 q
 have rT0 := cw_T w t lo b5 o5 q
 have rM0 := cw_M w t lo b5 o5 q
 have rA0 := cw_A w t lo b5 o5 q ga
 have rB0 := cw_A w t lo b5 o5 q gb
 go_enter Tryz.func108, Tryz.ntmps108
 go_wp2_with fail
 refine region_ext (by kernel_rfl) (by kernel_rfl) ?_
 repeat (go_big_quiet_step (first | (go_at_call 147; exact quiet_ext (excluded_lit HE.out (HT.out.ext_ (hbW.trans' (ExtW.h _))) hs)) | (go_at_call 66; with_reducible exact quiet_ext (class_spec t T lo _ (HT.out.ext_ (hbW.trans' (ExtW.h _))) hs)) | (go_at_call 66; with_reducible exact quiet_ext (class_spec t T a _ (HT.out.ext_ (hbW.trans' (ExtW.h _))) hs)) | (go_at_call 146; with_reducible exact quiet_ext (HFB.out _ (hbW.trans' (ExtW.h _))))))
 refine wpQuiet_nil ?_
 rintro _ ⟨x, rfl⟩
 have HX : Ext w x.w := hbW.trans' x.h
 have rTx := cx_T (x.h)
 have rMx := cx_M (x.h)
 have rAx := cx_A HX ga
 have rBx := cx_A HX gb
 go_wp2_with fail
 refine region_ext (by kernel_rfl) (by kernel_rfl) ?_
 repeat (go_big_quiet_step ((go_at_call 146; with_reducible exact quiet_ext (HFA.out _ (HX.trans' (ExtW.h _))))))
 refine wpQuiet_nil ?_
 rintro _ ⟨y, rfl⟩
 have HY : Ext w y.w := HX.trans' y.h
 clear rT0 rM0 rA0 rB0 rTx rMx rAx rBx
 have rTy := cx_T (x.h.trans' y.h)
 have rMy := cx_M (x.h.trans' y.h)
 have rAy := cx_A HY ga
 have rBy := cx_A HY gb
 go_wp2_with fail
 refine region_ext (by kernel_rfl) (by kernel_rfl) ?_
 repeat (go_big_quiet_step (fail))
 refine wpQuiet_nil ?_
 rintro _ ⟨z, rfl⟩
 have HZ : Ext w z.w := HY.trans' z.h
 clear rTy rMy rAy rBy
 have rTz := cx_T ((x.h.trans' y.h).trans' z.h)
 have rMz := cx_M ((x.h.trans' y.h).trans' z.h)
 have rAz := cx_A HZ ga
 have rBz := cx_A HZ gb
 go_wp2_with fail
 refine region_ext (by kernel_rfl) (by kernel_rfl) ?_
 repeat (go_big_quiet_step ((go_at_call 66; with_reducible exact quiet_ext (class_spec t T b _ (HT.out.ext_ (HZ.trans' (ExtW.h _))) hs))))
 refine wpQuiet_nil ?_
 rintro _ ⟨u, rfl⟩
 have HU : Ext w u.w := HZ.trans' u.h
 clear rTz rMz rAz rBz
 have rTu := cx_T (((x.h.trans' y.h).trans' z.h).trans' u.h)
 have rMu := cx_M (((x.h.trans' y.h).trans' z.h).trans' u.h)
 have rAu := cx_A HU ga
 have rBu := cx_A HU gb
 go_wp2_with fail
 refine region_ext (by kernel_rfl) (by kernel_rfl) ?_
 repeat (go_big_quiet_step (first | (go_at_call 148; with_reducible exact quiet_ext (last_spec t T a _ (HT.out.ext_ (HU.trans' (ExtW.h _))) hs hn HFin.out)) | (go_at_call 66; with_reducible exact quiet_ext (class_spec t T (lastT T.dec a) _ (HT.out.ext_ (HU.trans' (ExtW.h _))) hs))))
 refine wpQuiet_nil ?_
 rintro _ ⟨v, rfl⟩
 go_wp2
 go_ret
 exact ⟨rfl, HU.trans' v.h⟩
set_option maxHeartbeats 3200000 in
set_option maxRecDepth 100000 in
theorem comp_c8 (t : TV) (T : Tbl) (lo a b : Int) (A : Option Addr) (n q : Nat) (w : World) (ht : TblS w t T) (hs : Srt T) (_ : NonEs T) (hF : FinD T.dec) (hz : IntS w ⟨A, n, q⟩ [a, b])
  (hE : exHas T.exc lo = false) (c1 : (clsT T lo != 0) = false) (c2 : (clsT T a != 0) = false) (hfb : FindAt w t.s9 b ⟨none, 0, 0⟩) (b8 o8 zan zac : Nat) (hfa : FindAt w t.s9 a ⟨some ⟨b8, o8, none⟩, zan, zac⟩) (ih : ∀ w', Ext w w' → Calls Tryz.prog 108 #[t.v, .agg #[.int .i64 a, .slice (some ⟨b8, o8, none⟩) zan zac]] w' fun e w'' => e = .returned (.bool true) ∧ Ext w' w'') (c3 : (clsT T b == 0) = true) :
  Calls Tryz.prog 108 #[t.v, .agg #[.int .i64 lo, .slice A n q]] w fun e w' => e = .returned (.bool true) ∧ Ext w w' := by
 obtain rfl : n = 2 := hz.len.1
 obtain ⟨b5, o5, ha, ga⟩ := hz.at_ (i := 0) (by simp)
 obtain ⟨b6, o6, ha6, gb⟩ := hz.at_ (i := 1) (by simp)
 rw [ha] at ha6
 injection ha6 with ha6
 injection ha6 with e1 e2
 subst e1 e2
 subst ha
 simp only [Nat.add_zero, List.getElem_cons_zero, List.getElem_cons_succ] at ga gb
 clear hz
 have HFin := Lib.hid hF
 have HE := Lib.hid hE
 clear hE
 have HFB := Lib.hid hfb
 clear hfb
 have HFA := Lib.hid hfa
 clear hfa
 have IH := Lib.hid ih
 clear ih
 have HT := Lib.hid ht
 clear hF ht
 have hbW := cw_b w t lo b5 o5 q
 have rT0 := cw_T w t lo b5 o5 q
 have rM0 := cw_M w t lo b5 o5 q
 have rA0 := cw_A w t lo b5 o5 q ga
 have rB0 := cw_A w t lo b5 o5 q gb
 go_enter Tryz.func108, Tryz.ntmps108
 go_wp2_with fail
 refine region_ext (by kernel_rfl) (by kernel_rfl) ?_
 repeat (go_big_quiet_step (first | (go_at_call 147; exact quiet_ext (excluded_lit HE.out (HT.out.ext_ (hbW.trans' (ExtW.h _))) hs)) | (go_at_call 66; with_reducible exact quiet_ext (class_spec t T lo _ (HT.out.ext_ (hbW.trans' (ExtW.h _))) hs)) | (go_at_call 66; with_reducible exact quiet_ext (class_spec t T a _ (HT.out.ext_ (hbW.trans' (ExtW.h _))) hs)) | (go_at_call 146; with_reducible exact quiet_ext (HFB.out _ (hbW.trans' (ExtW.h _))))))
 refine wpQuiet_nil ?_
 rintro _ ⟨x, rfl⟩
 have HX : Ext w x.w := hbW.trans' x.h
 have rTx := cx_T (x.h)
 have rMx := cx_M (x.h)
 have rAx := cx_A HX ga
 have rBx := cx_A HX gb
 go_wp2_with fail
 refine region_ext (by kernel_rfl) (by kernel_rfl) ?_
 repeat (go_big_quiet_step ((go_at_call 146; with_reducible exact quiet_ext (HFA.out _ (HX.trans' (ExtW.h _))))))
 refine wpQuiet_nil ?_
 rintro _ ⟨y, rfl⟩
 have HY : Ext w y.w := HX.trans' y.h
 clear rT0 rM0 rA0 rB0 rTx rMx rAx rBx
 have rTy := cx_T (x.h.trans' y.h)
 have rMy := cx_M (x.h.trans' y.h)
 have rAy := cx_A HY ga
 have rBy := cx_A HY gb
 go_wp2_with fail
 refine region_ext (by kernel_rfl) (by kernel_rfl) ?_
 repeat (go_big_quiet_step ((go_at_call 108; with_reducible exact quiet_ext (IH.out _ (HY.trans' (ExtW.h _))))))
 refine wpQuiet_nil ?_
 rintro _ ⟨z, rfl⟩
 have HZ : Ext w z.w := HY.trans' z.h
 clear rTy rMy rAy rBy
 have rTz := cx_T ((x.h.trans' y.h).trans' z.h)
 have rMz := cx_M ((x.h.trans' y.h).trans' z.h)
 have rAz := cx_A HZ ga
 have rBz := cx_A HZ gb
 go_wp2_with fail
 refine region_ext (by kernel_rfl) (by kernel_rfl) ?_
 repeat (go_big_quiet_step ((go_at_call 66; with_reducible exact quiet_ext (class_spec t T b _ (HT.out.ext_ (HZ.trans' (ExtW.h _))) hs))))
 refine wpQuiet_nil ?_
 rintro _ ⟨u, rfl⟩
 have HU : Ext w u.w := HZ.trans' u.h
 clear rTz rMz rAz rBz
 have rTu := cx_T (((x.h.trans' y.h).trans' z.h).trans' u.h)
 have rMu := cx_M (((x.h.trans' y.h).trans' z.h).trans' u.h)
 have rAu := cx_A HU ga
 have rBu := cx_A HU gb
 go_wp2_with fail
 refine region_ext (by kernel_rfl) (by kernel_rfl) ?_
 repeat (go_big_quiet_step (fail))
 refine wpQuiet_nil ?_
 rintro _ ⟨v, rfl⟩
 go_wp2
 go_ret
 exact ⟨rfl, HU.trans' v.h⟩
set_option maxHeartbeats 3200000 in
set_option maxRecDepth 100000 in
theorem comp_c9 (t : TV) (T : Tbl) (lo a b : Int) (A : Option Addr) (n q : Nat) (w : World) (ht : TblS w t T) (hs : Srt T) (hn : NonEs T) (hF : FinD T.dec) (hz : IntS w ⟨A, n, q⟩ [a, b])
  (hE : exHas T.exc lo = false) (c1 : (clsT T lo != 0) = false) (c2 : (clsT T a != 0) = false) (hfb : FindAt w t.s9 b ⟨none, 0, 0⟩) (b8 o8 zan zac : Nat) (hfa : FindAt w t.s9 a ⟨some ⟨b8, o8, none⟩, zan, zac⟩) (ih : ∀ w', Ext w w' → Calls Tryz.prog 108 #[t.v, .agg #[.int .i64 a, .slice (some ⟨b8, o8, none⟩) zan zac]] w' fun e w'' => e = .returned (.bool true) ∧ Ext w' w'') (c3 : (clsT T b == 0) = false) :
  Calls Tryz.prog 108 #[t.v, .agg #[.int .i64 lo, .slice A n q]] w fun e w' => e = .returned (.bool (decide (clsT T (lastT T.dec a) ≤ clsT T b))) ∧ Ext w w' := by
 obtain rfl : n = 2 := hz.len.1
 obtain ⟨b5, o5, ha, ga⟩ := hz.at_ (i := 0) (by simp)
 obtain ⟨b6, o6, ha6, gb⟩ := hz.at_ (i := 1) (by simp)
 rw [ha] at ha6
 injection ha6 with ha6
 injection ha6 with e1 e2
 subst e1 e2
 subst ha
 simp only [Nat.add_zero, List.getElem_cons_zero, List.getElem_cons_succ] at ga gb
 clear hz
 have HFin := Lib.hid hF
 have HE := Lib.hid hE
 clear hE
 have HFB := Lib.hid hfb
 clear hfb
 have HFA := Lib.hid hfa
 clear hfa
 have IH := Lib.hid ih
 clear ih
 have HT := Lib.hid ht
 clear hF ht
 have hbW := cw_b w t lo b5 o5 q
 have rT0 := cw_T w t lo b5 o5 q
 have rM0 := cw_M w t lo b5 o5 q
 have rA0 := cw_A w t lo b5 o5 q ga
 have rB0 := cw_A w t lo b5 o5 q gb
 go_enter Tryz.func108, Tryz.ntmps108
 go_wp2_with fail
 refine region_ext (by kernel_rfl) (by kernel_rfl) ?_
 repeat (go_big_quiet_step (first | (go_at_call 147; exact quiet_ext (excluded_lit HE.out (HT.out.ext_ (hbW.trans' (ExtW.h _))) hs)) | (go_at_call 66; with_reducible exact quiet_ext (class_spec t T lo _ (HT.out.ext_ (hbW.trans' (ExtW.h _))) hs)) | (go_at_call 66; with_reducible exact quiet_ext (class_spec t T a _ (HT.out.ext_ (hbW.trans' (ExtW.h _))) hs)) | (go_at_call 146; with_reducible exact quiet_ext (HFB.out _ (hbW.trans' (ExtW.h _))))))
 refine wpQuiet_nil ?_
 rintro _ ⟨x, rfl⟩
 have HX : Ext w x.w := hbW.trans' x.h
 have rTx := cx_T (x.h)
 have rMx := cx_M (x.h)
 have rAx := cx_A HX ga
 have rBx := cx_A HX gb
 go_wp2_with fail
 refine region_ext (by kernel_rfl) (by kernel_rfl) ?_
 repeat (go_big_quiet_step ((go_at_call 146; with_reducible exact quiet_ext (HFA.out _ (HX.trans' (ExtW.h _))))))
 refine wpQuiet_nil ?_
 rintro _ ⟨y, rfl⟩
 have HY : Ext w y.w := HX.trans' y.h
 clear rT0 rM0 rA0 rB0 rTx rMx rAx rBx
 have rTy := cx_T (x.h.trans' y.h)
 have rMy := cx_M (x.h.trans' y.h)
 have rAy := cx_A HY ga
 have rBy := cx_A HY gb
 go_wp2_with fail
 refine region_ext (by kernel_rfl) (by kernel_rfl) ?_
 repeat (go_big_quiet_step ((go_at_call 108; with_reducible exact quiet_ext (IH.out _ (HY.trans' (ExtW.h _))))))
 refine wpQuiet_nil ?_
 rintro _ ⟨z, rfl⟩
 have HZ : Ext w z.w := HY.trans' z.h
 clear rTy rMy rAy rBy
 have rTz := cx_T ((x.h.trans' y.h).trans' z.h)
 have rMz := cx_M ((x.h.trans' y.h).trans' z.h)
 have rAz := cx_A HZ ga
 have rBz := cx_A HZ gb
 go_wp2_with fail
 refine region_ext (by kernel_rfl) (by kernel_rfl) ?_
 repeat (go_big_quiet_step ((go_at_call 66; with_reducible exact quiet_ext (class_spec t T b _ (HT.out.ext_ (HZ.trans' (ExtW.h _))) hs))))
 refine wpQuiet_nil ?_
 rintro _ ⟨u, rfl⟩
 have HU : Ext w u.w := HZ.trans' u.h
 clear rTz rMz rAz rBz
 have rTu := cx_T (((x.h.trans' y.h).trans' z.h).trans' u.h)
 have rMu := cx_M (((x.h.trans' y.h).trans' z.h).trans' u.h)
 have rAu := cx_A HU ga
 have rBu := cx_A HU gb
 go_wp2_with fail
 refine region_ext (by kernel_rfl) (by kernel_rfl) ?_
 repeat (go_big_quiet_step (first | (go_at_call 148; with_reducible exact quiet_ext (last_spec t T a _ (HT.out.ext_ (HU.trans' (ExtW.h _))) hs hn HFin.out)) | (go_at_call 66; with_reducible exact quiet_ext (class_spec t T (lastT T.dec a) _ (HT.out.ext_ (HU.trans' (ExtW.h _))) hs))))
 refine wpQuiet_nil ?_
 rintro _ ⟨v, rfl⟩
 go_wp2
 go_ret
 exact ⟨rfl, HU.trans' v.h⟩
end Go.Proofs.YtbdabjhankgcmaaGreatDoor
namespace Go.Proofs.YtbdabjhankgcmaaGreatDoor
open Go.RowKit
theorem compN_two (T : Tbl) (k : Nat) (lo a b : Int) : compN T (k + 1) ⟨lo, [a, b]⟩ = (!(exHas T.exc lo || decide (clsT T lo ≠ 0) || decide (clsT T a ≠ 0) || !(mpFind T.dec b).isEmpty) &&
    !(!(mpFind T.dec a).isEmpty && !compN T k ⟨a, mpFind T.dec a⟩) && (decide (clsT T b = 0) || decide (clsT T (lastT T.dec a) ≤ clsT T b))) := rfl
theorem compN_other (T : Tbl) (k : Nat) (lo : Int) (to : List Int) (h : ∀ a b, to ≠ [a, b]) : compN T k ⟨lo, to⟩ = false := by
 cases k with
 | zero => rfl
 | succ k =>
  match to, h with
  | [], _ => rfl
  | [_], _ => rfl
  | [a, b], h => exact absurd rfl (h a b)
  | _ :: _ :: _ :: _, _ => rfl
theorem Calls.res_bool {P : Program} {f : FuncId} {args : Array Value} {w : World} {a b : Bool} (h : Calls P f args w fun e w' => e = .returned (.bool a) ∧ Ext w w') (e : a = b) :
  Calls P f args w fun e w' => e = .returned (.bool b) ∧ Ext w w' := e ▸ h
theorem comp_spec (T : Tbl) (hs : Srt T) (hn : NonEs T) (hF : FinD T.dec) : ∀ (k : Nat) (t : TV) (lo : Int) (A : Option Addr) (n q : Nat) (to : List Int) (w : World), TblS w t T → IntS w ⟨A, n, q⟩ to →
  (∀ a b, to = [a, b] → rkD T.dec a < k) → Calls Tryz.prog 108 #[t.v, .agg #[.int .i64 lo, .slice A n q]] w fun e w' => e = .returned (.bool (compN T k ⟨lo, to⟩)) ∧ Ext w w' := by
 intro k
 induction k with
 | zero =>
  intro t lo A n q to w ht hz hr
  have hno : ∀ a b, to ≠ [a, b] := fun a b h => by have := hr a b h; omega
  refine Calls.res_bool (comp_short t lo A n q w ?_) (compN_other T 0 lo to hno).symm
  have hl := hz.len.1
  intro h2
  match to, hno, hl with
  | [], _, hl => simp at hl; omega
  | [_], _, hl => simp at hl; omega
  | [a, b], hno, _ => exact hno a b rfl
  | _ :: _ :: _ :: _, _, hl => simp at hl; omega
 | succ k ih =>
  intro t lo A n q to w ht hz hr
  by_cases hno : ∀ a b, to ≠ [a, b]
  ·refine Calls.res_bool (comp_short t lo A n q w ?_) (compN_other T (k + 1) lo to hno).symm
   have hl := hz.len.1
   intro h2
   match to, hno, hl with
   | [], _, hl => simp at hl; omega
   | [_], _, hl => simp at hl; omega
   | [a, b], hno, _ => exact hno a b rfl
   | _ :: _ :: _ :: _, _, hl => simp at hl; omega
  ·obtain ⟨a, b, rfl⟩ : ∃ a b, to = [a, b] := by
    refine Classical.byContradiction fun h => hno fun a b e => h ⟨a, b, e⟩
   have hrk := hr a b rfl
   have hd : MapS w ⟨t.s9.a, t.s9.n, t.s9.c⟩ T.dec := ht.dec
   obtain ⟨zba, zbn, zbc, hb1, hb2, hb3⟩ := find_det T.dec t.s9.a t.s9.n t.s9.c b w hd hs.dec.1 hs.dec.2
   obtain ⟨zaa, zan, zac, ha1, ha2, ha3⟩ := find_det T.dec t.s9.a t.s9.n t.s9.c a w hd hs.dec.1 hs.dec.2
   have eb := find_cases hb1 fun h => by have := hb2 (mpHas_of_nil hn.dec h); exact ⟨this.1, this.2.2⟩
   have ea := find_cases ha1 fun h => by have := ha2 (mpHas_of_nil hn.dec h); exact ⟨this.1, this.2.2⟩
   rw [compN_two]
   cases hE : exHas T.exc lo
   ·cases c1 : (clsT T lo != 0)
    ·have d1 : decide (clsT T lo ≠ 0) = false := by simpa using c1
     cases c2 : (clsT T a != 0)
     ·have d2 : decide (clsT T a ≠ 0) = false := by simpa using c2
      rcases eb with ⟨eb, rfl, rfl, rfl⟩ | ⟨b7, o7, eb, rfl⟩
      ·rcases ea with ⟨ea, rfl, rfl, rfl⟩ | ⟨b8, o8, ea, rfl⟩
       ·cases c3 : (clsT T b == 0)
        ·have d3 : decide (clsT T b = 0) = false := by simpa using c3
         refine Calls.res_bool (comp_c7 t T lo a b A n q w ht hs hn hF hz hE c1 c2 hb3 ha3 c3) ?_
         rw [d1, d2, d3, ea, eb]; rfl
        ·have d3 : decide (clsT T b = 0) = true := by simpa using c3
         refine Calls.res_bool (comp_c6 t T lo a b A n q w ht hs hn hF hz hE c1 c2 hb3 ha3 c3) ?_
         rw [d1, d2, d3, ea, eb]; rfl
       ·have hrec := fun w' (hw : Ext w w') => ih t a (some ⟨b8, o8, none⟩) zan zac (mpFind T.dec a) w' (ht.ext_ hw) (ha1.ext hw) fun a' b' h' => by
         have := rkD_step hF (c := a) (d := a') (by rw [h']; simp)
         omega
        have dE : (mpFind T.dec a).isEmpty = false := by simpa using ea
        cases hc : compN T k ⟨a, mpFind T.dec a⟩
        ·rw [hc] at hrec
         refine Calls.res_bool (comp_c5 t T lo a b A n q w ht hs hn hF hz hE c1 c2 hb3 b8 o8 zan zac ha3 hrec) ?_
         rw [dE]; simp
        ·rw [hc] at hrec
         cases c3 : (clsT T b == 0)
         ·have d3 : decide (clsT T b = 0) = false := by simpa using c3
          refine Calls.res_bool (comp_c9 t T lo a b A n q w ht hs hn hF hz hE c1 c2 hb3 b8 o8 zan zac ha3 hrec c3) ?_
          rw [d1, d2, d3, dE, eb]; rfl
         ·have d3 : decide (clsT T b = 0) = true := by simpa using c3
          refine Calls.res_bool (comp_c8 t T lo a b A n q w ht hs hn hF hz hE c1 c2 hb3 b8 o8 zan zac ha3 hrec c3) ?_
          rw [d1, d2, d3, dE, eb]; rfl
      ·have dB : (mpFind T.dec b).isEmpty = false := by simpa using eb
       refine Calls.res_bool (comp_c4 t T lo a b A n q w ht hs hn hF hz hE c1 c2 b7 o7 zbn zbc hb3) ?_
       rw [dB]; simp
     ·have d2 : decide (clsT T a ≠ 0) = true := by simpa using c2
      refine Calls.res_bool (comp_c3 t T lo a b A n q w ht hs hn hF hz hE c1 c2) ?_
      rw [d2]; simp
    ·have d1 : decide (clsT T lo ≠ 0) = true := by simpa using c1
     refine Calls.res_bool (comp_c2 t T lo a b A n q w ht hs hn hF hz hE c1) ?_
     rw [d1]; simp
   ·refine Calls.res_bool (comp_c1 t T lo a b A n q w ht hs hn hF hz hE) ?_
    simp
theorem composable_spec (T : Tbl) (hs : Srt T) (hn : NonEs T) (hF : FinD T.dec) (t : TV) (lo : Int) (A : Option Addr) (n q : Nat) (to : List Int) (w : World) (ht : TblS w t T) (hz : IntS w ⟨A, n, q⟩ to) :
  Calls Tryz.prog 108 #[t.v, .agg #[.int .i64 lo, .slice A n q]] w fun e w' => e = .returned (.bool (compT T ⟨lo, to⟩)) ∧ Ext w w' :=
 comp_spec T hs hn hF (T.dec.length + 2) t lo A n q to w ht hz fun a _ _ => by have := rkD_lt hF a; omega
theorem compT_len {T : Tbl} {m : Mp} (h : compT T m = true) : ∃ a b, m.to = [a, b] := by
 refine Classical.byContradiction fun hn => ?_
 obtain ⟨lo, to⟩ := m
 have := compN_other T (T.dec.length + 2) lo to fun a b e => hn ⟨a, b, e⟩
 unfold compT at h
 rw [this] at h
 cases h
theorem pfind_seen (a b : Int) : ∀ sp : List (Int × Int), pfind a b (sp.map fun p => (p, Value.bool true)) = if (a, b) ∈ sp then some (.bool true) else none
 | [] => rfl
 | (x, y) :: sp => by
  simp only [List.map_cons, pfind, pfind_seen a b sp, List.mem_cons, Prod.mk.injEq]
  by_cases h : x = a ∧ y = b
  ·rw [if_pos h, if_pos (.inl ⟨h.1.symm, h.2.symm⟩)]
  ·rw [if_neg h]
   by_cases h2 : (a, b) ∈ sp
   ·rw [if_pos h2, if_pos (.inr h2)]
   ·rw [if_neg h2, if_neg (by rintro (⟨rfl, rfl⟩ | h3); exact h ⟨rfl, rfl⟩; exact h2 h3)]
theorem contains_seen (a b : Int) (sp : List (Int × Int)) : (sp.map fun p => [p.1, p.2]).contains [a, b] = decide ((a, b) ∈ sp) := by
 induction sp with
 | nil => rfl
 | cons p sp ih =>
  simp only [List.map_cons, List.contains_cons, ih, List.mem_cons]
  obtain ⟨x, y⟩ := p
  by_cases h : a = x ∧ b = y
  ·obtain ⟨rfl, rfl⟩ := h; simp
  ·have e1 : ([a, b] == [x, y]) = false := by
    rw [beq_eq_false_iff_ne]
    intro h'
    simp at h'
    exact h h'
   rw [e1]
   simp [h]
set_option maxHeartbeats 1600000 in
set_option maxRecDepth 100000 in
theorem unique_spec (t : TV) (T : Tbl) (w : World) (ht : TblS w t T) (hs : Srt T) (hn : NonEs T) (hF : FinD T.dec) :
  Calls Tryz.prog 119 #[t.v] w fun e w' => e = .returned (.bool (uniqueB T)) ∧ Ext w w' := by
 have HB : Hid (uniqueB T = uniqL T [] T.dec) := rfl
 obtain ⟨s0, s1, s2, s3, s4, s5, s6, s7, s8, ⟨A, n, cc⟩, s10, s11⟩ := t
 have hx : MapS w ⟨A, n, cc⟩ T.dec := ht.dec
 obtain ⟨l, hl0⟩ : ∃ l, l = T.dec := ⟨_, rfl⟩
 rw [← hl0] at HB hx
 clear hl0
 obtain ⟨hl, _, _⟩ := hx.len
 subst hl
 have hzm : ∀ w, (zeroValue 4).run Tryz.prog w = .ok (.bool false) w := Tryz.zeroValue4
 have HZM := Lib.hid hzm
 clear hzm
 have hbm : Ext w ((w.alloc (.cells #[.slice s0.a s0.n s0.c, .slice s1.a s1.n s1.c, .slice s2.a s2.n s2.c, .slice s3.a s3.n s3.c, .slice s4.a s4.n s4.c, .slice s5.a s5.n s5.c, .slice s6.a s6.n s6.c, .slice s7.a s7.n s7.c, .slice s8.a s8.n s8.c, .slice A l.length cc, .slice s10.a s10.n s10.c, .slice s11.a s11.n s11.c] 26)).alloc (.map #[] 0)) := ((Ext.refl _).alloc_ _).alloc_ _
 have hpm : PMap ((w.alloc (.cells #[.slice s0.a s0.n s0.c, .slice s1.a s1.n s1.c, .slice s2.a s2.n s2.c, .slice s3.a s3.n s3.c, .slice s4.a s4.n s4.c, .slice s5.a s5.n s5.c, .slice s6.a s6.n s6.c, .slice s7.a s7.n s7.c, .slice s8.a s8.n s8.c, .slice A l.length cc, .slice s10.a s10.n s10.c, .slice s11.a s11.n s11.c] 26)).alloc (.map #[] 0)) (w.heap.size + 1) [] := ⟨#[], 0, alloc2_new _ _ _, rfl⟩
 have hlt1 : w.heap.size + 1 < ((w.alloc (.cells #[.slice s0.a s0.n s0.c, .slice s1.a s1.n s1.c, .slice s2.a s2.n s2.c, .slice s3.a s3.n s3.c, .slice s4.a s4.n s4.c, .slice s5.a s5.n s5.c, .slice s6.a s6.n s6.c, .slice s7.a s7.n s7.c, .slice s8.a s8.n s8.c, .slice A l.length cc, .slice s10.a s10.n s10.c, .slice s11.a s11.n s11.c] 26)).alloc (.map #[] 0)).heap.size := by simp
 go_enter Tryz.func119, Tryz.ntmps119
 go_wp2_with fail
 go_loopw [11] (fun i wr => ∃ (k : Nat) (sp : List (Int × Int)), k ≤ l.length ∧ i = .int .i64 k ∧ PMap wr (w.heap.size + 1) (sp.map fun p => (p, Value.bool true)) ∧ Hid (uniqueB T = uniqL T (sp.map fun p => [p.1, p.2]) (l.drop k)) ∧
  Below (w.heap.size + 1) (w.alloc (.cells #[.slice s0.a s0.n s0.c, .slice s1.a s1.n s1.c, .slice s2.a s2.n s2.c, .slice s3.a s3.n s3.c, .slice s4.a s4.n s4.c, .slice s5.a s5.n s5.c, .slice s6.a s6.n s6.c, .slice s7.a s7.n s7.c, .slice s8.a s8.n s8.c, .slice A l.length cc, .slice s10.a s10.n s10.c, .slice s11.a s11.n s11.c] 26)) wr) (fun i _ => l.length - (intOf i).toNat)
 case atStart => exact ⟨0, [], Nat.zero_le _, rfl, hpm, HB, (((Ext.refl (w.alloc (.cells #[.slice s0.a s0.n s0.c, .slice s1.a s1.n s1.c, .slice s2.a s2.n s2.c, .slice s3.a s3.n s3.c, .slice s4.a s4.n s4.c, .slice s5.a s5.n s5.c, .slice s6.a s6.n s6.c, .slice s7.a s7.n s7.c, .slice s8.a s8.n s8.c, .slice A l.length cc, .slice s10.a s10.n s10.c, .slice s11.a s11.n s11.c] 26))).alloc_ (.map #[] 0)).b).mono (by simp)⟩
 case round =>
  obtain ⟨k, sp, hk, rfl, hpr, HR, hbr⟩ := hrel
  have hbr2 : Ext (w.alloc (.cells #[.slice s0.a s0.n s0.c, .slice s1.a s1.n s1.c, .slice s2.a s2.n s2.c, .slice s3.a s3.n s3.c, .slice s4.a s4.n s4.c, .slice s5.a s5.n s5.c, .slice s6.a s6.n s6.c, .slice s7.a s7.n s7.c, .slice s8.a s8.n s8.c, .slice A l.length cc, .slice s10.a s10.n s10.c, .slice s11.a s11.n s11.c] 26)) wr := hbr.mono (by simp)
  have hb0r : Ext w wr := ((Ext.refl w).alloc_ _).trans' hbr2
  by_cases hlt : k < l.length
  ·obtain ⟨b, o, za, zn, zc, ha, h0, h1, h2⟩ := (hx.ext hb0r).at_ hlt
   subst ha
   have HD : Hid (l.drop k = l[k] :: l.drop (k + 1)) := drop_at l k hlt
   generalize l[k] = x at *
   obtain ⟨xl, xt⟩ := x
   simp only at h0 h1 h2
   have hbx := box_at hbr2
   have hzx : w.heap.size < wr.heap.size := by have := hbr.size; simp at this; omega
   have hba2 : Ext wr (wr.alloc (.cells #[.int .i64 xl, .slice za zn zc] 74)) := (Ext.refl _).alloc_ _
   have HT2 := Lib.hid (ht.ext_ (hb0r.trans' hba2))
   have HZ2 := Lib.hid (h2.ext hba2)
   have HS := hid_trans HR (show _ = (if compT T ⟨xl, xt⟩ = false then uniqL T (sp.map fun p => [p.1, p.2]) (l.drop (k + 1)) else if (sp.map fun p => [p.1, p.2]).contains xt then false else uniqL T ((sp.map fun p => [p.1, p.2]) ++ [xt]) (l.drop (k + 1))) from by rw [HD.out]; rfl)
   have HPR := Lib.hid hpr
   clear HR HD HB h2 hpr
   go_wp2_with fail
   refine (composable_spec T hs hn hF _ xl za zn zc xt _ HT2.out HZ2.out).mono ?_
   rintro e w3 ⟨rfl, hb3⟩
   have hb3r := hba2.trans' hb3
   cases hc : compT T ⟨xl, xt⟩
   ·have HF := hid_trans HS (if_pos hc)
    clear HS hc
    go_wp2
    go_roundw
    case rel => exact ⟨k + 1, sp, by omega, by go_num, HPR.out.ext hb3r, HF, hbr.trans (hb3r.b.mono (by have := hbr.size; simp at this; omega))⟩
    case measure => simp [intOf]; omega
   ·obtain ⟨a, c, rfl⟩ := compT_len hc
    have HS2 := hid_trans HS (show _ = (if (a, c) ∈ sp then false else uniqL T ((sp.map fun p => [p.1, p.2]) ++ [[a, c]]) (l.drop (k + 1))) from by rw [hc, contains_seen]; simp)
    have hz3 := HZ2.out.ext hb3
    obtain rfl : zn = 2 := hz3.len.1
    obtain ⟨b5, o5, ha, ga⟩ := hz3.at_ (i := 0) (by simp)
    obtain ⟨b6, o6, ha6, gb⟩ := hz3.at_ (i := 1) (by simp)
    rw [ha] at ha6
    injection ha6 with ha6
    injection ha6 with e1 e2
    subst e1 e2
    subst ha
    simp only [Nat.add_zero, List.getElem_cons_zero, List.getElem_cons_succ] at ga gb
    have gbx := box_at hb3
    have hzb : wr.heap.size < w3.heap.size := by have := hb3.b.size; simp at this; omega
    have hp3 := HPR.out.ext hb3r
    have gM : w3.cell? ⟨wr.heap.size, 1, none⟩ = some (.slice (some ⟨b5, o5, none⟩) 2 zc) := gbx 1
    have lg := World.block_lt_of_cell? w3 _ ga
    have nA := World.new_ne w3 _ ga
    have nB := World.new_ne w3 _ gb
    have nM := World.new_ne w3 _ gM
    clear HS hc hz3 h0 h1 gbx
    go_wp2_with fail
    go_region_held3 (fun w' => w'.cell? ⟨wr.heap.size, 1, none⟩ = some (.slice (some ⟨b5, o5, none⟩) 2 zc) ∧ w'.cell? ⟨b5, o5, none⟩ = some (.int .i64 a) ∧ w'.cell? ⟨b5, o5 + 1, none⟩ = some (.int .i64 c)) (go_keep) (fail)
    all_goals go_wp2_with fail
    have hp4 : PMap (w3.alloc (.cells #[.int .i64 a, .int .i64 c] 126)).drew (w.heap.size + 1) (sp.map fun p => (p, Value.bool true)) := hp3.keep (Below.heap_alloc _ _ _ hp3.lt)
    rw [run_plookup Tryz.underlying133 HZM.out hp4 a c, pfind_seen]
    by_cases hin : (a, c) ∈ sp
    ·rw [if_pos hin]
     have HF := hid_trans HS2 (if_pos hin)
     clear HS2 hin
     go_wp2
     go_ret
     exact ⟨ret_bool HF.out.symm, (hb0r.trans' hb3r).trans' ((Ext.refl _).alloc_ _).drew_⟩
    ·rw [if_neg hin]
     have HF := hid_trans HS2 (if_neg hin)
     have HIN := Lib.hid hin
     clear HS2 hin
     obtain ⟨w5, hrun, hp5, hg5⟩ := run_pupdate Tryz.underlying133 hp4 a c (.bool true) (by rw [pfind_seen, if_neg HIN.out])
     go_wp2_with fail
     go_roundw
     have hsz : w.heap.size + 1 < wr.heap.size := HPR.out.lt
     have hbx5 : Below (w.heap.size + 1) (w.alloc (.cells #[.slice s0.a s0.n s0.c, .slice s1.a s1.n s1.c, .slice s2.a s2.n s2.c, .slice s3.a s3.n s3.c, .slice s4.a s4.n s4.c, .slice s5.a s5.n s5.c, .slice s6.a s6.n s6.c, .slice s7.a s7.n s7.c, .slice s8.a s8.n s8.c, .slice (some ⟨b, o, none⟩) l.length cc, .slice s10.a s10.n s10.c, .slice s11.a s11.n s11.c] 26)) (w3.alloc (.cells #[.int .i64 a, .int .i64 c] 126)).drew :=
      ((hbr.trans (hb3r.b.mono (by omega))).alloc (by have := hb3r.b.size; omega) _).drew
     case rel => exact ⟨k + 1, sp ++ [(a, c)], by omega, by go_num, by simpa using hp5, by simpa using HF, hbx5.grown hg5 (by have := hb3r.b.size; simp; omega) (fun q hq => by injection hq with hq; omega)⟩
     case measure => simp [intOf]; omega
  ·have HF := hid_trans HR (show _ = true from by rw [drop_all l k (by omega)]; rfl)
   clear HR HB
   go_wp2
   go_ret
   exact ⟨ret_bool HF.out.symm, hb0r⟩
set_option maxHeartbeats 1600000 in
set_option maxRecDepth 100000 in
theorem prototyped_spec (t : TV) (T : Tbl) (w : World) (ht : TblS w t T) (hs : Srt T) (hn : NonEs T) :
  Calls Tryz.prog 120 #[t.v] w fun e w' => e = .returned (.bool (prototypedB T)) ∧ Ext w w' := by
 have HB : Hid (prototypedB T = protoL T T.pro) := rfl
 obtain ⟨s0, s1, s2, s3, s4, s5, s6, s7, s8, s9, s10, ⟨A, n, cc⟩⟩ := t
 have hx : MapS w ⟨A, n, cc⟩ T.pro := ht.pro
 obtain ⟨l, hl0⟩ : ∃ l, l = T.pro := ⟨_, rfl⟩
 rw [← hl0] at HB hx
 have HL := Lib.hid hl0
 clear hl0
 obtain ⟨hl, _, _⟩ := hx.len
 subst hl
 have hba : Ext w (w.alloc (.cells #[.slice s0.a s0.n s0.c, .slice s1.a s1.n s1.c, .slice s2.a s2.n s2.c, .slice s3.a s3.n s3.c, .slice s4.a s4.n s4.c, .slice s5.a s5.n s5.c, .slice s6.a s6.n s6.c, .slice s7.a s7.n s7.c, .slice s8.a s8.n s8.c, .slice s9.a s9.n s9.c, .slice s10.a s10.n s10.c, .slice A l.length cc] 26)) := (Ext.refl _).alloc_ _
 go_enter Tryz.func120, Tryz.ntmps120
 go_wp2_with fail
 go_loopw [10] (fun i wr => ∃ (k : Nat), k ≤ l.length ∧ i = .int .i64 k ∧ Hid (prototypedB T = protoL T (l.drop k)) ∧ Ext (w.alloc (.cells #[.slice s0.a s0.n s0.c, .slice s1.a s1.n s1.c, .slice s2.a s2.n s2.c, .slice s3.a s3.n s3.c, .slice s4.a s4.n s4.c, .slice s5.a s5.n s5.c, .slice s6.a s6.n s6.c, .slice s7.a s7.n s7.c, .slice s8.a s8.n s8.c, .slice s9.a s9.n s9.c, .slice s10.a s10.n s10.c, .slice A l.length cc] 26)) wr) (fun i _ => l.length - (intOf i).toNat)
 case atStart => exact ⟨0, Nat.zero_le _, rfl, HB, Ext.refl _⟩
 case round =>
  obtain ⟨k, hk, rfl, HR, hbr⟩ := hrel
  have hb0r := hba.trans' hbr
  by_cases hlt : k < l.length
  ·obtain ⟨b, o, za, zn, zc, ha, h0, h1, h2⟩ := (hx.ext hb0r).at_ hlt
   subst ha
   have HD : Hid (l.drop k = l[k] :: l.drop (k + 1)) := drop_at l k hlt
   generalize l[k] = x at *
   obtain ⟨xl, xt⟩ := x
   simp only at h0 h1 h2
   obtain ⟨hzn, _, _⟩ := h2.len
   subst hzn
   have hbx := box_at hbr
   have hzx : w.heap.size < wr.heap.size := by have := hbr.b.size; simp at this; omega
   have hba2 : Ext wr (wr.alloc (.cells #[.int .i64 xl, .slice za xt.length zc] 74)) := (Ext.refl _).alloc_ _
   have h22 := Lib.hid (h2.ext hba2)
   have HT2 := Lib.hid (ht.ext_ (hb0r.trans' hba2))
   have HS := hid_trans HR (show _ = (plainB T xl && (protoTo T xt && protoL T (l.drop (k + 1)))) from by rw [HD.out]; simp [protoL, Bool.and_assoc])
   clear HR HD HB h2
   go_wp2_with fail
   refine (plain_spec _ T xl _ HT2.out hs hn).mono ?_
   rintro e w3 ⟨rfl, hb3⟩
   have hbr3 := hbr.trans' (hba2.trans' hb3)
   cases hp : plainB T xl
   ·have HF := hid_trans HS (show _ = false from by rw [hp]; rfl)
    clear HS hp
    go_wp2
    go_ret
    exact ⟨ret_bool HF.out.symm, hba.trans' hbr3⟩
   ·have HS2 := hid_trans HS (show _ = (protoTo T xt && protoL T (l.drop (k + 1))) from by rw [hp]; rfl)
    have h23 := h22.out.ext hb3
    have gbx := box_at hb3
    have hzb : wr.heap.size < w3.heap.size := by have := hb3.b.size; simp at this; omega
    clear HS hp
    obtain ⟨wo, rfl⟩ : ∃ wo : World, wo = wr := ⟨_, rfl⟩
    go_wp2_with fail
    go_loopw [22] (fun i wi => ∃ (j : Nat), j ≤ xt.length ∧ i = .int .i64 j ∧ Hid (prototypedB T = (protoTo T (xt.drop j) && protoL T (l.drop (k + 1)))) ∧ Ext w3 wi) (fun i _ => xt.length - (intOf i).toNat)
    case atStart => exact ⟨0, Nat.zero_le _, rfl, HS2, Ext.refl _⟩
    case round =>
     obtain ⟨j, hj, rfl, HI, hbi⟩ := hrel
     have hb0i := hba.trans' (hbr3.trans' hbi)
     by_cases hltj : j < xt.length
     ·obtain ⟨b5, o5, ha, g5⟩ := (h23.ext hbi).at_ hltj
      subst ha
      have HJ : Hid (xt.drop j = xt[j] :: xt.drop (j + 1)) := drop_at xt j hltj
      generalize xt[j] = z at *
      have HZ := hid_trans HI (show _ = (!(!plainB T z || syllB z || !(mpFind T.pro z).isEmpty) && (protoTo T (xt.drop (j + 1)) && protoL T (l.drop (k + 1)))) from by rw [HJ.out]; simp [protoTo, Bool.and_assoc])
      have hbx2 := box_at (hbr3.trans' hbi)
      have hzx2 : w.heap.size < wr.heap.size := by have := hbi.b.size; omega
      have HT3 := Lib.hid (ht.ext_ hb0i)
      have hxi := Lib.hid (hx.ext hb0i)
      clear HI HJ HS2 hbx gbx
      go_wp2_with fail
      refine (plain_spec _ T z _ HT3.out hs hn).mono ?_
      rintro e w5 ⟨rfl, hb5⟩
      have hbx5 := box_at ((hbr3.trans' hbi).trans' hb5)
      have hzx5 : w.heap.size < w5.heap.size := by have := hb5.b.size; omega
      cases hp : plainB T z
      ·have HF := hid_trans HZ (show _ = false from by rw [hp]; rfl)
       clear HZ hp
       go_wp2_with fail
       go_ret
       exact ⟨ret_bool HF.out.symm, hb0i.trans' hb5⟩
      ·have HP := Lib.hid hp
       clear hp hbx2
       go_wp2_with fail
       refine (syllable_spec _ _).mono ?_
       rintro e w6 ⟨rfl, rfl⟩
       cases hy : syllB z
       ·have HY := Lib.hid hy
        clear hy
        go_wp2_with fail
        refine (find_spec T.pro _ _ _ z _ (by rw [← HL.out]; exact hxi.out.ext hb5) hs.pro.1 hn.pro hs.pro.2).mono ?_
        rintro e w7 ⟨ya, yn, yc, rfl, hq, hqn, hb7⟩
        rcases find_cases hq hqn with ⟨he, rfl, rfl, rfl⟩ | ⟨b', o', he, rfl⟩
        ·have HF := hid_trans HZ (show _ = (protoTo T (xt.drop (j + 1)) && protoL T (l.drop (k + 1))) from by rw [HP.out, HY.out, he]; rfl)
         clear HZ he hq hqn
         go_wp2_with fail
         go_roundw
         case rel => exact ⟨j + 1, by omega, by go_num, HF, hbi.trans' (hb5.trans' hb7)⟩
         case measure => simp [intOf]; omega
        ·have HF := hid_trans HZ (show _ = false from by simp [he])
         clear HZ he hq hqn
         go_wp2_with fail
         go_ret
         exact ⟨ret_bool HF.out.symm, hb0i.trans' (hb5.trans' hb7)⟩
       ·have HF := hid_trans HZ (show _ = false from by rw [hy]; simp)
        clear HZ hy
        go_wp2_with fail
        go_ret
        exact ⟨ret_bool HF.out.symm, hb0i.trans' hb5⟩
     ·have HF := hid_trans HI (show _ = protoL T (l.drop (k + 1)) from by rw [drop_all xt j (by omega)]; simp [protoTo])
      clear HI HS2
      go_wp2_with fail
      go_roundw
      case rel => exact ⟨k + 1, by omega, by go_num, HF, hbr3.trans' hbi⟩
      case measure => simp [intOf]; omega
  ·have HF := hid_trans HR (show _ = true from by rw [drop_all l k (by omega)]; rfl)
   clear HR HB
   go_wp2
   go_ret
   exact ⟨ret_bool HF.out.symm, hb0r⟩
end Go.Proofs.YtbdabjhankgcmaaGreatDoor
