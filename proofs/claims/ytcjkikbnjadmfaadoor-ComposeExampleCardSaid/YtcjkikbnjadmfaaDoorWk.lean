/- Walks: Composable. (The cases by program: comp_gen.py.) -/
import Derived.Test.YtcjkikbnjadmfaaDoorGd
namespace Go.Proofs.YtcjkikbnjadmfaaDoor
open Go.RowKit

theorem ext2_a {w : World} {cs : Array Value} {ty : TypeId} {o : Obj} {w' : World} (h : Ext ((w.alloc (.cells cs ty)).alloc o) w') (k : Nat) : w'.cell? ⟨w.heap.size, k, none⟩ = cs[k]? := by
  have h2 : Ext (w.alloc (.cells cs ty)) w' := ((Ext.refl _).alloc_ o).trans' h
  exact box_at h2 k
theorem ext2_b {w : World} {cs : Array Value} {ty : TypeId} {o : Obj} {w' : World} (h : Ext ((w.alloc o).alloc (.cells cs ty)) w') (k : Nat) : w'.cell? ⟨w.heap.size + 1, k, none⟩ = cs[k]? := by
  have h2 := box_at h k
  rwa [show (w.alloc o).heap.size = w.heap.size + 1 from by simp] at h2

theorem excluded_lit {t : TV} {T : Tbl} {c : Int} {w : World} {b : Bool} (hb : exHas T.exc c = b) (ht : TblS w t T) (hs : Srt T) :
    Calls Tryd.prog 37 #[t.v, .int .i64 c] w fun e w' => e = .returned (.bool b) ∧ Ext w w' := by
  subst hb
  exact excluded_look t T c w ht hs.exc.1 hs.exc.2

set_option maxHeartbeats 1600000 in
set_option maxRecDepth 100000 in
theorem comp_short (t : TV) (lo : Int) (A : Option Addr) (n q : Nat) (w : World) (hl : n ≠ 2) :
    Calls Tryd.prog 18 #[t.v, .agg #[.int .i64 lo, .slice A n q]] w fun e w' => e = .returned (.bool false) ∧ Ext w w' := by
  have hl2 : ((n : Int) != 2) = true := by rw [bne_iff_ne]; omega
  clear hl
  have hbW : Ext w ((w.alloc (.cells #[.slice t.s0.a t.s0.n t.s0.c, .slice t.s1.a t.s1.n t.s1.c, .slice t.s2.a t.s2.n t.s2.c, .slice t.s3.a t.s3.n t.s3.c, .slice t.s4.a t.s4.n t.s4.c, .slice t.s5.a t.s5.n t.s5.c, .slice t.s6.a t.s6.n t.s6.c, .slice t.s7.a t.s7.n t.s7.c, .slice t.s8.a t.s8.n t.s8.c, .slice t.s9.a t.s9.n t.s9.c, .slice t.s10.a t.s10.n t.s10.c, .slice t.s11.a t.s11.n t.s11.c] 26)).alloc (.cells #[.int .i64 lo, .slice A n q] 40)) := ((Ext.refl _).alloc_ _).alloc_ _
  have rT : ∀ x : ExtW ((w.alloc (.cells #[.slice t.s0.a t.s0.n t.s0.c, .slice t.s1.a t.s1.n t.s1.c, .slice t.s2.a t.s2.n t.s2.c, .slice t.s3.a t.s3.n t.s3.c, .slice t.s4.a t.s4.n t.s4.c, .slice t.s5.a t.s5.n t.s5.c, .slice t.s6.a t.s6.n t.s6.c, .slice t.s7.a t.s7.n t.s7.c, .slice t.s8.a t.s8.n t.s8.c, .slice t.s9.a t.s9.n t.s9.c, .slice t.s10.a t.s10.n t.s10.c, .slice t.s11.a t.s11.n t.s11.c] 26)).alloc (.cells #[.int .i64 lo, .slice A n q] 40)), ∀ k : Nat, x.w.cell? ⟨w.heap.size, k, none⟩ = (#[.slice t.s0.a t.s0.n t.s0.c, .slice t.s1.a t.s1.n t.s1.c, .slice t.s2.a t.s2.n t.s2.c, .slice t.s3.a t.s3.n t.s3.c, .slice t.s4.a t.s4.n t.s4.c, .slice t.s5.a t.s5.n t.s5.c, .slice t.s6.a t.s6.n t.s6.c, .slice t.s7.a t.s7.n t.s7.c, .slice t.s8.a t.s8.n t.s8.c, .slice t.s9.a t.s9.n t.s9.c, .slice t.s10.a t.s10.n t.s10.c, .slice t.s11.a t.s11.n t.s11.c] : Array Value)[k]? := fun x => ext2_a x.h
  have rM : ∀ x : ExtW ((w.alloc (.cells #[.slice t.s0.a t.s0.n t.s0.c, .slice t.s1.a t.s1.n t.s1.c, .slice t.s2.a t.s2.n t.s2.c, .slice t.s3.a t.s3.n t.s3.c, .slice t.s4.a t.s4.n t.s4.c, .slice t.s5.a t.s5.n t.s5.c, .slice t.s6.a t.s6.n t.s6.c, .slice t.s7.a t.s7.n t.s7.c, .slice t.s8.a t.s8.n t.s8.c, .slice t.s9.a t.s9.n t.s9.c, .slice t.s10.a t.s10.n t.s10.c, .slice t.s11.a t.s11.n t.s11.c] 26)).alloc (.cells #[.int .i64 lo, .slice A n q] 40)), ∀ k : Nat, x.w.cell? ⟨w.heap.size + 1, k, none⟩ = (#[.int .i64 lo, .slice A n q] : Array Value)[k]? := fun x => ext2_b x.h
  go_enter Tryd.func18, Tryd.ntmps18
  go_wp2_with fail
  refine region_ext (by kernel_rfl) (by kernel_rfl) ?_
  repeat (go_big_quiet_step (fail))
  refine wpQuiet_nil ?_
  rintro _ ⟨x, rfl⟩
  go_wp2
  go_ret
  exact ⟨rfl, hbW.trans' x.h⟩

set_option maxHeartbeats 3200000 in
set_option maxRecDepth 100000 in
theorem comp_c1 (t : TV) (T : Tbl) (lo a b : Int) (A : Option Addr) (n q : Nat) (w : World) (ht : TblS w t T) (hs : Srt T) (_ : NonEs T) (hF : FinD T.dec) (hz : IntS w ⟨A, n, q⟩ [a, b])
    (hE : exHas T.exc lo = true) :
    Calls Tryd.prog 18 #[t.v, .agg #[.int .i64 lo, .slice A n q]] w fun e w' => e = .returned (.bool false) ∧ Ext w w' := by
  obtain rfl : n = 2 := hz.len.1
  obtain ⟨b5, o5, ha, ga⟩ := hz.at_ (i := 0) (by simp)
  obtain ⟨b6, o6, ha6, gb⟩ := hz.at_ (i := 1) (by simp)
  rw [ha] at ha6
  injection ha6 with ha6
  injection ha6 with e1 e2
  subst e1 e2
  subst ha
  simp only [Nat.add_zero, List.getElem_cons_zero, List.getElem_cons_succ] at ga gb
  clear hz
  have HFin := Lib.hid hF
  have HE := Lib.hid hE
  clear hE
  have HT := Lib.hid ht
  clear hF ht
  have hbW : Ext w ((w.alloc (.cells #[.slice t.s0.a t.s0.n t.s0.c, .slice t.s1.a t.s1.n t.s1.c, .slice t.s2.a t.s2.n t.s2.c, .slice t.s3.a t.s3.n t.s3.c, .slice t.s4.a t.s4.n t.s4.c, .slice t.s5.a t.s5.n t.s5.c, .slice t.s6.a t.s6.n t.s6.c, .slice t.s7.a t.s7.n t.s7.c, .slice t.s8.a t.s8.n t.s8.c, .slice t.s9.a t.s9.n t.s9.c, .slice t.s10.a t.s10.n t.s10.c, .slice t.s11.a t.s11.n t.s11.c] 26)).alloc (.cells #[.int .i64 lo, .slice (some ⟨b5, o5, none⟩) 2 q] 40)) := ((Ext.refl _).alloc_ _).alloc_ _
  have rT0 : ∀ yy : ExtW ((w.alloc (.cells #[.slice t.s0.a t.s0.n t.s0.c, .slice t.s1.a t.s1.n t.s1.c, .slice t.s2.a t.s2.n t.s2.c, .slice t.s3.a t.s3.n t.s3.c, .slice t.s4.a t.s4.n t.s4.c, .slice t.s5.a t.s5.n t.s5.c, .slice t.s6.a t.s6.n t.s6.c, .slice t.s7.a t.s7.n t.s7.c, .slice t.s8.a t.s8.n t.s8.c, .slice t.s9.a t.s9.n t.s9.c, .slice t.s10.a t.s10.n t.s10.c, .slice t.s11.a t.s11.n t.s11.c] 26)).alloc (.cells #[.int .i64 lo, .slice (some ⟨b5, o5, none⟩) 2 q] 40)), ∀ k : Nat, yy.w.cell? ⟨w.heap.size, k, none⟩ = (#[.slice t.s0.a t.s0.n t.s0.c, .slice t.s1.a t.s1.n t.s1.c, .slice t.s2.a t.s2.n t.s2.c, .slice t.s3.a t.s3.n t.s3.c, .slice t.s4.a t.s4.n t.s4.c, .slice t.s5.a t.s5.n t.s5.c, .slice t.s6.a t.s6.n t.s6.c, .slice t.s7.a t.s7.n t.s7.c, .slice t.s8.a t.s8.n t.s8.c, .slice t.s9.a t.s9.n t.s9.c, .slice t.s10.a t.s10.n t.s10.c, .slice t.s11.a t.s11.n t.s11.c] : Array Value)[k]? := fun yy => ext2_a ((Ext.refl _).trans' yy.h)
  have rM0 : ∀ yy : ExtW ((w.alloc (.cells #[.slice t.s0.a t.s0.n t.s0.c, .slice t.s1.a t.s1.n t.s1.c, .slice t.s2.a t.s2.n t.s2.c, .slice t.s3.a t.s3.n t.s3.c, .slice t.s4.a t.s4.n t.s4.c, .slice t.s5.a t.s5.n t.s5.c, .slice t.s6.a t.s6.n t.s6.c, .slice t.s7.a t.s7.n t.s7.c, .slice t.s8.a t.s8.n t.s8.c, .slice t.s9.a t.s9.n t.s9.c, .slice t.s10.a t.s10.n t.s10.c, .slice t.s11.a t.s11.n t.s11.c] 26)).alloc (.cells #[.int .i64 lo, .slice (some ⟨b5, o5, none⟩) 2 q] 40)), ∀ k : Nat, yy.w.cell? ⟨w.heap.size + 1, k, none⟩ = (#[.int .i64 lo, .slice (some ⟨b5, o5, none⟩) 2 q] : Array Value)[k]? := fun yy => ext2_b ((Ext.refl _).trans' yy.h)
  have rA0 : ∀ yy : ExtW ((w.alloc (.cells #[.slice t.s0.a t.s0.n t.s0.c, .slice t.s1.a t.s1.n t.s1.c, .slice t.s2.a t.s2.n t.s2.c, .slice t.s3.a t.s3.n t.s3.c, .slice t.s4.a t.s4.n t.s4.c, .slice t.s5.a t.s5.n t.s5.c, .slice t.s6.a t.s6.n t.s6.c, .slice t.s7.a t.s7.n t.s7.c, .slice t.s8.a t.s8.n t.s8.c, .slice t.s9.a t.s9.n t.s9.c, .slice t.s10.a t.s10.n t.s10.c, .slice t.s11.a t.s11.n t.s11.c] 26)).alloc (.cells #[.int .i64 lo, .slice (some ⟨b5, o5, none⟩) 2 q] 40)), yy.w.cell? ⟨b5, o5, none⟩ = some (.int .i64 a) := fun yy => keep_cell (ext_keep ((hbW).trans' yy.h)) ga
  have rB0 : ∀ yy : ExtW ((w.alloc (.cells #[.slice t.s0.a t.s0.n t.s0.c, .slice t.s1.a t.s1.n t.s1.c, .slice t.s2.a t.s2.n t.s2.c, .slice t.s3.a t.s3.n t.s3.c, .slice t.s4.a t.s4.n t.s4.c, .slice t.s5.a t.s5.n t.s5.c, .slice t.s6.a t.s6.n t.s6.c, .slice t.s7.a t.s7.n t.s7.c, .slice t.s8.a t.s8.n t.s8.c, .slice t.s9.a t.s9.n t.s9.c, .slice t.s10.a t.s10.n t.s10.c, .slice t.s11.a t.s11.n t.s11.c] 26)).alloc (.cells #[.int .i64 lo, .slice (some ⟨b5, o5, none⟩) 2 q] 40)), yy.w.cell? ⟨b5, o5 + 1, none⟩ = some (.int .i64 b) := fun yy => keep_cell (ext_keep ((hbW).trans' yy.h)) gb
  go_enter Tryd.func18, Tryd.ntmps18
  go_wp2_with fail
  refine region_ext (by kernel_rfl) (by kernel_rfl) ?_
  repeat (go_big_quiet_step (first | (go_at_call 37; exact quiet_ext (excluded_lit HE.out (HT.out.ext_ (hbW.trans' (ExtW.h _))) hs)) | (go_at_call 32; with_reducible exact quiet_ext (class_spec t T lo _ (HT.out.ext_ (hbW.trans' (ExtW.h _))) hs)) | (go_at_call 32; with_reducible exact quiet_ext (class_spec t T a _ (HT.out.ext_ (hbW.trans' (ExtW.h _))) hs)) | (go_at_call 36; with_reducible exact quiet_ext (HFB.out _ (hbW.trans' (ExtW.h _))))))
  refine wpQuiet_nil ?_
  rintro _ ⟨x, rfl⟩
  go_wp2
  go_ret
  exact ⟨rfl, hbW.trans' x.h⟩

set_option maxHeartbeats 3200000 in
set_option maxRecDepth 100000 in
theorem comp_c2 (t : TV) (T : Tbl) (lo a b : Int) (A : Option Addr) (n q : Nat) (w : World) (ht : TblS w t T) (hs : Srt T) (_ : NonEs T) (hF : FinD T.dec) (hz : IntS w ⟨A, n, q⟩ [a, b])
    (hE : exHas T.exc lo = false) (c1 : (clsT T lo != 0) = true) :
    Calls Tryd.prog 18 #[t.v, .agg #[.int .i64 lo, .slice A n q]] w fun e w' => e = .returned (.bool false) ∧ Ext w w' := by
  obtain rfl : n = 2 := hz.len.1
  obtain ⟨b5, o5, ha, ga⟩ := hz.at_ (i := 0) (by simp)
  obtain ⟨b6, o6, ha6, gb⟩ := hz.at_ (i := 1) (by simp)
  rw [ha] at ha6
  injection ha6 with ha6
  injection ha6 with e1 e2
  subst e1 e2
  subst ha
  simp only [Nat.add_zero, List.getElem_cons_zero, List.getElem_cons_succ] at ga gb
  clear hz
  have HFin := Lib.hid hF
  have HE := Lib.hid hE
  clear hE
  have HT := Lib.hid ht
  clear hF ht
  have hbW : Ext w ((w.alloc (.cells #[.slice t.s0.a t.s0.n t.s0.c, .slice t.s1.a t.s1.n t.s1.c, .slice t.s2.a t.s2.n t.s2.c, .slice t.s3.a t.s3.n t.s3.c, .slice t.s4.a t.s4.n t.s4.c, .slice t.s5.a t.s5.n t.s5.c, .slice t.s6.a t.s6.n t.s6.c, .slice t.s7.a t.s7.n t.s7.c, .slice t.s8.a t.s8.n t.s8.c, .slice t.s9.a t.s9.n t.s9.c, .slice t.s10.a t.s10.n t.s10.c, .slice t.s11.a t.s11.n t.s11.c] 26)).alloc (.cells #[.int .i64 lo, .slice (some ⟨b5, o5, none⟩) 2 q] 40)) := ((Ext.refl _).alloc_ _).alloc_ _
  have rT0 : ∀ yy : ExtW ((w.alloc (.cells #[.slice t.s0.a t.s0.n t.s0.c, .slice t.s1.a t.s1.n t.s1.c, .slice t.s2.a t.s2.n t.s2.c, .slice t.s3.a t.s3.n t.s3.c, .slice t.s4.a t.s4.n t.s4.c, .slice t.s5.a t.s5.n t.s5.c, .slice t.s6.a t.s6.n t.s6.c, .slice t.s7.a t.s7.n t.s7.c, .slice t.s8.a t.s8.n t.s8.c, .slice t.s9.a t.s9.n t.s9.c, .slice t.s10.a t.s10.n t.s10.c, .slice t.s11.a t.s11.n t.s11.c] 26)).alloc (.cells #[.int .i64 lo, .slice (some ⟨b5, o5, none⟩) 2 q] 40)), ∀ k : Nat, yy.w.cell? ⟨w.heap.size, k, none⟩ = (#[.slice t.s0.a t.s0.n t.s0.c, .slice t.s1.a t.s1.n t.s1.c, .slice t.s2.a t.s2.n t.s2.c, .slice t.s3.a t.s3.n t.s3.c, .slice t.s4.a t.s4.n t.s4.c, .slice t.s5.a t.s5.n t.s5.c, .slice t.s6.a t.s6.n t.s6.c, .slice t.s7.a t.s7.n t.s7.c, .slice t.s8.a t.s8.n t.s8.c, .slice t.s9.a t.s9.n t.s9.c, .slice t.s10.a t.s10.n t.s10.c, .slice t.s11.a t.s11.n t.s11.c] : Array Value)[k]? := fun yy => ext2_a ((Ext.refl _).trans' yy.h)
  have rM0 : ∀ yy : ExtW ((w.alloc (.cells #[.slice t.s0.a t.s0.n t.s0.c, .slice t.s1.a t.s1.n t.s1.c, .slice t.s2.a t.s2.n t.s2.c, .slice t.s3.a t.s3.n t.s3.c, .slice t.s4.a t.s4.n t.s4.c, .slice t.s5.a t.s5.n t.s5.c, .slice t.s6.a t.s6.n t.s6.c, .slice t.s7.a t.s7.n t.s7.c, .slice t.s8.a t.s8.n t.s8.c, .slice t.s9.a t.s9.n t.s9.c, .slice t.s10.a t.s10.n t.s10.c, .slice t.s11.a t.s11.n t.s11.c] 26)).alloc (.cells #[.int .i64 lo, .slice (some ⟨b5, o5, none⟩) 2 q] 40)), ∀ k : Nat, yy.w.cell? ⟨w.heap.size + 1, k, none⟩ = (#[.int .i64 lo, .slice (some ⟨b5, o5, none⟩) 2 q] : Array Value)[k]? := fun yy => ext2_b ((Ext.refl _).trans' yy.h)
  have rA0 : ∀ yy : ExtW ((w.alloc (.cells #[.slice t.s0.a t.s0.n t.s0.c, .slice t.s1.a t.s1.n t.s1.c, .slice t.s2.a t.s2.n t.s2.c, .slice t.s3.a t.s3.n t.s3.c, .slice t.s4.a t.s4.n t.s4.c, .slice t.s5.a t.s5.n t.s5.c, .slice t.s6.a t.s6.n t.s6.c, .slice t.s7.a t.s7.n t.s7.c, .slice t.s8.a t.s8.n t.s8.c, .slice t.s9.a t.s9.n t.s9.c, .slice t.s10.a t.s10.n t.s10.c, .slice t.s11.a t.s11.n t.s11.c] 26)).alloc (.cells #[.int .i64 lo, .slice (some ⟨b5, o5, none⟩) 2 q] 40)), yy.w.cell? ⟨b5, o5, none⟩ = some (.int .i64 a) := fun yy => keep_cell (ext_keep ((hbW).trans' yy.h)) ga
  have rB0 : ∀ yy : ExtW ((w.alloc (.cells #[.slice t.s0.a t.s0.n t.s0.c, .slice t.s1.a t.s1.n t.s1.c, .slice t.s2.a t.s2.n t.s2.c, .slice t.s3.a t.s3.n t.s3.c, .slice t.s4.a t.s4.n t.s4.c, .slice t.s5.a t.s5.n t.s5.c, .slice t.s6.a t.s6.n t.s6.c, .slice t.s7.a t.s7.n t.s7.c, .slice t.s8.a t.s8.n t.s8.c, .slice t.s9.a t.s9.n t.s9.c, .slice t.s10.a t.s10.n t.s10.c, .slice t.s11.a t.s11.n t.s11.c] 26)).alloc (.cells #[.int .i64 lo, .slice (some ⟨b5, o5, none⟩) 2 q] 40)), yy.w.cell? ⟨b5, o5 + 1, none⟩ = some (.int .i64 b) := fun yy => keep_cell (ext_keep ((hbW).trans' yy.h)) gb
  go_enter Tryd.func18, Tryd.ntmps18
  go_wp2_with fail
  refine region_ext (by kernel_rfl) (by kernel_rfl) ?_
  repeat (go_big_quiet_step (first | (go_at_call 37; exact quiet_ext (excluded_lit HE.out (HT.out.ext_ (hbW.trans' (ExtW.h _))) hs)) | (go_at_call 32; with_reducible exact quiet_ext (class_spec t T lo _ (HT.out.ext_ (hbW.trans' (ExtW.h _))) hs)) | (go_at_call 32; with_reducible exact quiet_ext (class_spec t T a _ (HT.out.ext_ (hbW.trans' (ExtW.h _))) hs)) | (go_at_call 36; with_reducible exact quiet_ext (HFB.out _ (hbW.trans' (ExtW.h _))))))
  refine wpQuiet_nil ?_
  rintro _ ⟨x, rfl⟩
  go_wp2
  go_ret
  exact ⟨rfl, hbW.trans' x.h⟩

set_option maxHeartbeats 3200000 in
set_option maxRecDepth 100000 in
theorem comp_c3 (t : TV) (T : Tbl) (lo a b : Int) (A : Option Addr) (n q : Nat) (w : World) (ht : TblS w t T) (hs : Srt T) (_ : NonEs T) (hF : FinD T.dec) (hz : IntS w ⟨A, n, q⟩ [a, b])
    (hE : exHas T.exc lo = false) (c1 : (clsT T lo != 0) = false) (c2 : (clsT T a != 0) = true) :
    Calls Tryd.prog 18 #[t.v, .agg #[.int .i64 lo, .slice A n q]] w fun e w' => e = .returned (.bool false) ∧ Ext w w' := by
  obtain rfl : n = 2 := hz.len.1
  obtain ⟨b5, o5, ha, ga⟩ := hz.at_ (i := 0) (by simp)
  obtain ⟨b6, o6, ha6, gb⟩ := hz.at_ (i := 1) (by simp)
  rw [ha] at ha6
  injection ha6 with ha6
  injection ha6 with e1 e2
  subst e1 e2
  subst ha
  simp only [Nat.add_zero, List.getElem_cons_zero, List.getElem_cons_succ] at ga gb
  clear hz
  have HFin := Lib.hid hF
  have HE := Lib.hid hE
  clear hE
  have HT := Lib.hid ht
  clear hF ht
  have hbW : Ext w ((w.alloc (.cells #[.slice t.s0.a t.s0.n t.s0.c, .slice t.s1.a t.s1.n t.s1.c, .slice t.s2.a t.s2.n t.s2.c, .slice t.s3.a t.s3.n t.s3.c, .slice t.s4.a t.s4.n t.s4.c, .slice t.s5.a t.s5.n t.s5.c, .slice t.s6.a t.s6.n t.s6.c, .slice t.s7.a t.s7.n t.s7.c, .slice t.s8.a t.s8.n t.s8.c, .slice t.s9.a t.s9.n t.s9.c, .slice t.s10.a t.s10.n t.s10.c, .slice t.s11.a t.s11.n t.s11.c] 26)).alloc (.cells #[.int .i64 lo, .slice (some ⟨b5, o5, none⟩) 2 q] 40)) := ((Ext.refl _).alloc_ _).alloc_ _
  have rT0 : ∀ yy : ExtW ((w.alloc (.cells #[.slice t.s0.a t.s0.n t.s0.c, .slice t.s1.a t.s1.n t.s1.c, .slice t.s2.a t.s2.n t.s2.c, .slice t.s3.a t.s3.n t.s3.c, .slice t.s4.a t.s4.n t.s4.c, .slice t.s5.a t.s5.n t.s5.c, .slice t.s6.a t.s6.n t.s6.c, .slice t.s7.a t.s7.n t.s7.c, .slice t.s8.a t.s8.n t.s8.c, .slice t.s9.a t.s9.n t.s9.c, .slice t.s10.a t.s10.n t.s10.c, .slice t.s11.a t.s11.n t.s11.c] 26)).alloc (.cells #[.int .i64 lo, .slice (some ⟨b5, o5, none⟩) 2 q] 40)), ∀ k : Nat, yy.w.cell? ⟨w.heap.size, k, none⟩ = (#[.slice t.s0.a t.s0.n t.s0.c, .slice t.s1.a t.s1.n t.s1.c, .slice t.s2.a t.s2.n t.s2.c, .slice t.s3.a t.s3.n t.s3.c, .slice t.s4.a t.s4.n t.s4.c, .slice t.s5.a t.s5.n t.s5.c, .slice t.s6.a t.s6.n t.s6.c, .slice t.s7.a t.s7.n t.s7.c, .slice t.s8.a t.s8.n t.s8.c, .slice t.s9.a t.s9.n t.s9.c, .slice t.s10.a t.s10.n t.s10.c, .slice t.s11.a t.s11.n t.s11.c] : Array Value)[k]? := fun yy => ext2_a ((Ext.refl _).trans' yy.h)
  have rM0 : ∀ yy : ExtW ((w.alloc (.cells #[.slice t.s0.a t.s0.n t.s0.c, .slice t.s1.a t.s1.n t.s1.c, .slice t.s2.a t.s2.n t.s2.c, .slice t.s3.a t.s3.n t.s3.c, .slice t.s4.a t.s4.n t.s4.c, .slice t.s5.a t.s5.n t.s5.c, .slice t.s6.a t.s6.n t.s6.c, .slice t.s7.a t.s7.n t.s7.c, .slice t.s8.a t.s8.n t.s8.c, .slice t.s9.a t.s9.n t.s9.c, .slice t.s10.a t.s10.n t.s10.c, .slice t.s11.a t.s11.n t.s11.c] 26)).alloc (.cells #[.int .i64 lo, .slice (some ⟨b5, o5, none⟩) 2 q] 40)), ∀ k : Nat, yy.w.cell? ⟨w.heap.size + 1, k, none⟩ = (#[.int .i64 lo, .slice (some ⟨b5, o5, none⟩) 2 q] : Array Value)[k]? := fun yy => ext2_b ((Ext.refl _).trans' yy.h)
  have rA0 : ∀ yy : ExtW ((w.alloc (.cells #[.slice t.s0.a t.s0.n t.s0.c, .slice t.s1.a t.s1.n t.s1.c, .slice t.s2.a t.s2.n t.s2.c, .slice t.s3.a t.s3.n t.s3.c, .slice t.s4.a t.s4.n t.s4.c, .slice t.s5.a t.s5.n t.s5.c, .slice t.s6.a t.s6.n t.s6.c, .slice t.s7.a t.s7.n t.s7.c, .slice t.s8.a t.s8.n t.s8.c, .slice t.s9.a t.s9.n t.s9.c, .slice t.s10.a t.s10.n t.s10.c, .slice t.s11.a t.s11.n t.s11.c] 26)).alloc (.cells #[.int .i64 lo, .slice (some ⟨b5, o5, none⟩) 2 q] 40)), yy.w.cell? ⟨b5, o5, none⟩ = some (.int .i64 a) := fun yy => keep_cell (ext_keep ((hbW).trans' yy.h)) ga
  have rB0 : ∀ yy : ExtW ((w.alloc (.cells #[.slice t.s0.a t.s0.n t.s0.c, .slice t.s1.a t.s1.n t.s1.c, .slice t.s2.a t.s2.n t.s2.c, .slice t.s3.a t.s3.n t.s3.c, .slice t.s4.a t.s4.n t.s4.c, .slice t.s5.a t.s5.n t.s5.c, .slice t.s6.a t.s6.n t.s6.c, .slice t.s7.a t.s7.n t.s7.c, .slice t.s8.a t.s8.n t.s8.c, .slice t.s9.a t.s9.n t.s9.c, .slice t.s10.a t.s10.n t.s10.c, .slice t.s11.a t.s11.n t.s11.c] 26)).alloc (.cells #[.int .i64 lo, .slice (some ⟨b5, o5, none⟩) 2 q] 40)), yy.w.cell? ⟨b5, o5 + 1, none⟩ = some (.int .i64 b) := fun yy => keep_cell (ext_keep ((hbW).trans' yy.h)) gb
  go_enter Tryd.func18, Tryd.ntmps18
  go_wp2_with fail
  refine region_ext (by kernel_rfl) (by kernel_rfl) ?_
  repeat (go_big_quiet_step (first | (go_at_call 37; exact quiet_ext (excluded_lit HE.out (HT.out.ext_ (hbW.trans' (ExtW.h _))) hs)) | (go_at_call 32; with_reducible exact quiet_ext (class_spec t T lo _ (HT.out.ext_ (hbW.trans' (ExtW.h _))) hs)) | (go_at_call 32; with_reducible exact quiet_ext (class_spec t T a _ (HT.out.ext_ (hbW.trans' (ExtW.h _))) hs)) | (go_at_call 36; with_reducible exact quiet_ext (HFB.out _ (hbW.trans' (ExtW.h _))))))
  refine wpQuiet_nil ?_
  rintro _ ⟨x, rfl⟩
  go_wp2
  go_ret
  exact ⟨rfl, hbW.trans' x.h⟩

set_option maxHeartbeats 3200000 in
set_option maxRecDepth 100000 in
theorem comp_c4 (t : TV) (T : Tbl) (lo a b : Int) (A : Option Addr) (n q : Nat) (w : World) (ht : TblS w t T) (hs : Srt T) (_ : NonEs T) (hF : FinD T.dec) (hz : IntS w ⟨A, n, q⟩ [a, b])
    (hE : exHas T.exc lo = false) (c1 : (clsT T lo != 0) = false) (c2 : (clsT T a != 0) = false) (b7 o7 zbn zbc : Nat) (hfb : FindAt w t.s9 b ⟨some ⟨b7, o7, none⟩, zbn, zbc⟩) :
    Calls Tryd.prog 18 #[t.v, .agg #[.int .i64 lo, .slice A n q]] w fun e w' => e = .returned (.bool false) ∧ Ext w w' := by
  obtain rfl : n = 2 := hz.len.1
  obtain ⟨b5, o5, ha, ga⟩ := hz.at_ (i := 0) (by simp)
  obtain ⟨b6, o6, ha6, gb⟩ := hz.at_ (i := 1) (by simp)
  rw [ha] at ha6
  injection ha6 with ha6
  injection ha6 with e1 e2
  subst e1 e2
  subst ha
  simp only [Nat.add_zero, List.getElem_cons_zero, List.getElem_cons_succ] at ga gb
  clear hz
  have HFin := Lib.hid hF
  have HE := Lib.hid hE
  clear hE
  have HFB := Lib.hid hfb
  clear hfb
  have HT := Lib.hid ht
  clear hF ht
  have hbW : Ext w ((w.alloc (.cells #[.slice t.s0.a t.s0.n t.s0.c, .slice t.s1.a t.s1.n t.s1.c, .slice t.s2.a t.s2.n t.s2.c, .slice t.s3.a t.s3.n t.s3.c, .slice t.s4.a t.s4.n t.s4.c, .slice t.s5.a t.s5.n t.s5.c, .slice t.s6.a t.s6.n t.s6.c, .slice t.s7.a t.s7.n t.s7.c, .slice t.s8.a t.s8.n t.s8.c, .slice t.s9.a t.s9.n t.s9.c, .slice t.s10.a t.s10.n t.s10.c, .slice t.s11.a t.s11.n t.s11.c] 26)).alloc (.cells #[.int .i64 lo, .slice (some ⟨b5, o5, none⟩) 2 q] 40)) := ((Ext.refl _).alloc_ _).alloc_ _
  have rT0 : ∀ yy : ExtW ((w.alloc (.cells #[.slice t.s0.a t.s0.n t.s0.c, .slice t.s1.a t.s1.n t.s1.c, .slice t.s2.a t.s2.n t.s2.c, .slice t.s3.a t.s3.n t.s3.c, .slice t.s4.a t.s4.n t.s4.c, .slice t.s5.a t.s5.n t.s5.c, .slice t.s6.a t.s6.n t.s6.c, .slice t.s7.a t.s7.n t.s7.c, .slice t.s8.a t.s8.n t.s8.c, .slice t.s9.a t.s9.n t.s9.c, .slice t.s10.a t.s10.n t.s10.c, .slice t.s11.a t.s11.n t.s11.c] 26)).alloc (.cells #[.int .i64 lo, .slice (some ⟨b5, o5, none⟩) 2 q] 40)), ∀ k : Nat, yy.w.cell? ⟨w.heap.size, k, none⟩ = (#[.slice t.s0.a t.s0.n t.s0.c, .slice t.s1.a t.s1.n t.s1.c, .slice t.s2.a t.s2.n t.s2.c, .slice t.s3.a t.s3.n t.s3.c, .slice t.s4.a t.s4.n t.s4.c, .slice t.s5.a t.s5.n t.s5.c, .slice t.s6.a t.s6.n t.s6.c, .slice t.s7.a t.s7.n t.s7.c, .slice t.s8.a t.s8.n t.s8.c, .slice t.s9.a t.s9.n t.s9.c, .slice t.s10.a t.s10.n t.s10.c, .slice t.s11.a t.s11.n t.s11.c] : Array Value)[k]? := fun yy => ext2_a ((Ext.refl _).trans' yy.h)
  have rM0 : ∀ yy : ExtW ((w.alloc (.cells #[.slice t.s0.a t.s0.n t.s0.c, .slice t.s1.a t.s1.n t.s1.c, .slice t.s2.a t.s2.n t.s2.c, .slice t.s3.a t.s3.n t.s3.c, .slice t.s4.a t.s4.n t.s4.c, .slice t.s5.a t.s5.n t.s5.c, .slice t.s6.a t.s6.n t.s6.c, .slice t.s7.a t.s7.n t.s7.c, .slice t.s8.a t.s8.n t.s8.c, .slice t.s9.a t.s9.n t.s9.c, .slice t.s10.a t.s10.n t.s10.c, .slice t.s11.a t.s11.n t.s11.c] 26)).alloc (.cells #[.int .i64 lo, .slice (some ⟨b5, o5, none⟩) 2 q] 40)), ∀ k : Nat, yy.w.cell? ⟨w.heap.size + 1, k, none⟩ = (#[.int .i64 lo, .slice (some ⟨b5, o5, none⟩) 2 q] : Array Value)[k]? := fun yy => ext2_b ((Ext.refl _).trans' yy.h)
  have rA0 : ∀ yy : ExtW ((w.alloc (.cells #[.slice t.s0.a t.s0.n t.s0.c, .slice t.s1.a t.s1.n t.s1.c, .slice t.s2.a t.s2.n t.s2.c, .slice t.s3.a t.s3.n t.s3.c, .slice t.s4.a t.s4.n t.s4.c, .slice t.s5.a t.s5.n t.s5.c, .slice t.s6.a t.s6.n t.s6.c, .slice t.s7.a t.s7.n t.s7.c, .slice t.s8.a t.s8.n t.s8.c, .slice t.s9.a t.s9.n t.s9.c, .slice t.s10.a t.s10.n t.s10.c, .slice t.s11.a t.s11.n t.s11.c] 26)).alloc (.cells #[.int .i64 lo, .slice (some ⟨b5, o5, none⟩) 2 q] 40)), yy.w.cell? ⟨b5, o5, none⟩ = some (.int .i64 a) := fun yy => keep_cell (ext_keep ((hbW).trans' yy.h)) ga
  have rB0 : ∀ yy : ExtW ((w.alloc (.cells #[.slice t.s0.a t.s0.n t.s0.c, .slice t.s1.a t.s1.n t.s1.c, .slice t.s2.a t.s2.n t.s2.c, .slice t.s3.a t.s3.n t.s3.c, .slice t.s4.a t.s4.n t.s4.c, .slice t.s5.a t.s5.n t.s5.c, .slice t.s6.a t.s6.n t.s6.c, .slice t.s7.a t.s7.n t.s7.c, .slice t.s8.a t.s8.n t.s8.c, .slice t.s9.a t.s9.n t.s9.c, .slice t.s10.a t.s10.n t.s10.c, .slice t.s11.a t.s11.n t.s11.c] 26)).alloc (.cells #[.int .i64 lo, .slice (some ⟨b5, o5, none⟩) 2 q] 40)), yy.w.cell? ⟨b5, o5 + 1, none⟩ = some (.int .i64 b) := fun yy => keep_cell (ext_keep ((hbW).trans' yy.h)) gb
  go_enter Tryd.func18, Tryd.ntmps18
  go_wp2_with fail
  refine region_ext (by kernel_rfl) (by kernel_rfl) ?_
  repeat (go_big_quiet_step (first | (go_at_call 37; exact quiet_ext (excluded_lit HE.out (HT.out.ext_ (hbW.trans' (ExtW.h _))) hs)) | (go_at_call 32; with_reducible exact quiet_ext (class_spec t T lo _ (HT.out.ext_ (hbW.trans' (ExtW.h _))) hs)) | (go_at_call 32; with_reducible exact quiet_ext (class_spec t T a _ (HT.out.ext_ (hbW.trans' (ExtW.h _))) hs)) | (go_at_call 36; with_reducible exact quiet_ext (HFB.out _ (hbW.trans' (ExtW.h _))))))
  refine wpQuiet_nil ?_
  rintro _ ⟨x, rfl⟩
  go_wp2
  go_ret
  exact ⟨rfl, hbW.trans' x.h⟩

set_option maxHeartbeats 3200000 in
set_option maxRecDepth 100000 in
theorem comp_c5 (t : TV) (T : Tbl) (lo a b : Int) (A : Option Addr) (n q : Nat) (w : World) (ht : TblS w t T) (hs : Srt T) (_ : NonEs T) (hF : FinD T.dec) (hz : IntS w ⟨A, n, q⟩ [a, b])
    (hE : exHas T.exc lo = false) (c1 : (clsT T lo != 0) = false) (c2 : (clsT T a != 0) = false) (hfb : FindAt w t.s9 b ⟨none, 0, 0⟩) (b8 o8 zan zac : Nat) (hfa : FindAt w t.s9 a ⟨some ⟨b8, o8, none⟩, zan, zac⟩) (ih : ∀ w', Ext w w' → Calls Tryd.prog 18 #[t.v, .agg #[.int .i64 a, .slice (some ⟨b8, o8, none⟩) zan zac]] w' fun e w'' => e = .returned (.bool false) ∧ Ext w' w'') :
    Calls Tryd.prog 18 #[t.v, .agg #[.int .i64 lo, .slice A n q]] w fun e w' => e = .returned (.bool false) ∧ Ext w w' := by
  obtain rfl : n = 2 := hz.len.1
  obtain ⟨b5, o5, ha, ga⟩ := hz.at_ (i := 0) (by simp)
  obtain ⟨b6, o6, ha6, gb⟩ := hz.at_ (i := 1) (by simp)
  rw [ha] at ha6
  injection ha6 with ha6
  injection ha6 with e1 e2
  subst e1 e2
  subst ha
  simp only [Nat.add_zero, List.getElem_cons_zero, List.getElem_cons_succ] at ga gb
  clear hz
  have HFin := Lib.hid hF
  have HE := Lib.hid hE
  clear hE
  have HFB := Lib.hid hfb
  clear hfb
  have HFA := Lib.hid hfa
  clear hfa
  have IH := Lib.hid ih
  clear ih
  have HT := Lib.hid ht
  clear hF ht
  have hbW : Ext w ((w.alloc (.cells #[.slice t.s0.a t.s0.n t.s0.c, .slice t.s1.a t.s1.n t.s1.c, .slice t.s2.a t.s2.n t.s2.c, .slice t.s3.a t.s3.n t.s3.c, .slice t.s4.a t.s4.n t.s4.c, .slice t.s5.a t.s5.n t.s5.c, .slice t.s6.a t.s6.n t.s6.c, .slice t.s7.a t.s7.n t.s7.c, .slice t.s8.a t.s8.n t.s8.c, .slice t.s9.a t.s9.n t.s9.c, .slice t.s10.a t.s10.n t.s10.c, .slice t.s11.a t.s11.n t.s11.c] 26)).alloc (.cells #[.int .i64 lo, .slice (some ⟨b5, o5, none⟩) 2 q] 40)) := ((Ext.refl _).alloc_ _).alloc_ _
  have rT0 : ∀ yy : ExtW ((w.alloc (.cells #[.slice t.s0.a t.s0.n t.s0.c, .slice t.s1.a t.s1.n t.s1.c, .slice t.s2.a t.s2.n t.s2.c, .slice t.s3.a t.s3.n t.s3.c, .slice t.s4.a t.s4.n t.s4.c, .slice t.s5.a t.s5.n t.s5.c, .slice t.s6.a t.s6.n t.s6.c, .slice t.s7.a t.s7.n t.s7.c, .slice t.s8.a t.s8.n t.s8.c, .slice t.s9.a t.s9.n t.s9.c, .slice t.s10.a t.s10.n t.s10.c, .slice t.s11.a t.s11.n t.s11.c] 26)).alloc (.cells #[.int .i64 lo, .slice (some ⟨b5, o5, none⟩) 2 q] 40)), ∀ k : Nat, yy.w.cell? ⟨w.heap.size, k, none⟩ = (#[.slice t.s0.a t.s0.n t.s0.c, .slice t.s1.a t.s1.n t.s1.c, .slice t.s2.a t.s2.n t.s2.c, .slice t.s3.a t.s3.n t.s3.c, .slice t.s4.a t.s4.n t.s4.c, .slice t.s5.a t.s5.n t.s5.c, .slice t.s6.a t.s6.n t.s6.c, .slice t.s7.a t.s7.n t.s7.c, .slice t.s8.a t.s8.n t.s8.c, .slice t.s9.a t.s9.n t.s9.c, .slice t.s10.a t.s10.n t.s10.c, .slice t.s11.a t.s11.n t.s11.c] : Array Value)[k]? := fun yy => ext2_a ((Ext.refl _).trans' yy.h)
  have rM0 : ∀ yy : ExtW ((w.alloc (.cells #[.slice t.s0.a t.s0.n t.s0.c, .slice t.s1.a t.s1.n t.s1.c, .slice t.s2.a t.s2.n t.s2.c, .slice t.s3.a t.s3.n t.s3.c, .slice t.s4.a t.s4.n t.s4.c, .slice t.s5.a t.s5.n t.s5.c, .slice t.s6.a t.s6.n t.s6.c, .slice t.s7.a t.s7.n t.s7.c, .slice t.s8.a t.s8.n t.s8.c, .slice t.s9.a t.s9.n t.s9.c, .slice t.s10.a t.s10.n t.s10.c, .slice t.s11.a t.s11.n t.s11.c] 26)).alloc (.cells #[.int .i64 lo, .slice (some ⟨b5, o5, none⟩) 2 q] 40)), ∀ k : Nat, yy.w.cell? ⟨w.heap.size + 1, k, none⟩ = (#[.int .i64 lo, .slice (some ⟨b5, o5, none⟩) 2 q] : Array Value)[k]? := fun yy => ext2_b ((Ext.refl _).trans' yy.h)
  have rA0 : ∀ yy : ExtW ((w.alloc (.cells #[.slice t.s0.a t.s0.n t.s0.c, .slice t.s1.a t.s1.n t.s1.c, .slice t.s2.a t.s2.n t.s2.c, .slice t.s3.a t.s3.n t.s3.c, .slice t.s4.a t.s4.n t.s4.c, .slice t.s5.a t.s5.n t.s5.c, .slice t.s6.a t.s6.n t.s6.c, .slice t.s7.a t.s7.n t.s7.c, .slice t.s8.a t.s8.n t.s8.c, .slice t.s9.a t.s9.n t.s9.c, .slice t.s10.a t.s10.n t.s10.c, .slice t.s11.a t.s11.n t.s11.c] 26)).alloc (.cells #[.int .i64 lo, .slice (some ⟨b5, o5, none⟩) 2 q] 40)), yy.w.cell? ⟨b5, o5, none⟩ = some (.int .i64 a) := fun yy => keep_cell (ext_keep ((hbW).trans' yy.h)) ga
  have rB0 : ∀ yy : ExtW ((w.alloc (.cells #[.slice t.s0.a t.s0.n t.s0.c, .slice t.s1.a t.s1.n t.s1.c, .slice t.s2.a t.s2.n t.s2.c, .slice t.s3.a t.s3.n t.s3.c, .slice t.s4.a t.s4.n t.s4.c, .slice t.s5.a t.s5.n t.s5.c, .slice t.s6.a t.s6.n t.s6.c, .slice t.s7.a t.s7.n t.s7.c, .slice t.s8.a t.s8.n t.s8.c, .slice t.s9.a t.s9.n t.s9.c, .slice t.s10.a t.s10.n t.s10.c, .slice t.s11.a t.s11.n t.s11.c] 26)).alloc (.cells #[.int .i64 lo, .slice (some ⟨b5, o5, none⟩) 2 q] 40)), yy.w.cell? ⟨b5, o5 + 1, none⟩ = some (.int .i64 b) := fun yy => keep_cell (ext_keep ((hbW).trans' yy.h)) gb
  go_enter Tryd.func18, Tryd.ntmps18
  go_wp2_with fail
  refine region_ext (by kernel_rfl) (by kernel_rfl) ?_
  repeat (go_big_quiet_step (first | (go_at_call 37; exact quiet_ext (excluded_lit HE.out (HT.out.ext_ (hbW.trans' (ExtW.h _))) hs)) | (go_at_call 32; with_reducible exact quiet_ext (class_spec t T lo _ (HT.out.ext_ (hbW.trans' (ExtW.h _))) hs)) | (go_at_call 32; with_reducible exact quiet_ext (class_spec t T a _ (HT.out.ext_ (hbW.trans' (ExtW.h _))) hs)) | (go_at_call 36; with_reducible exact quiet_ext (HFB.out _ (hbW.trans' (ExtW.h _))))))
  refine wpQuiet_nil ?_
  rintro _ ⟨x, rfl⟩
  have HX : Ext w x.w := hbW.trans' x.h
  have rTx : ∀ yy : ExtW x.w, ∀ k : Nat, yy.w.cell? ⟨w.heap.size, k, none⟩ = (#[.slice t.s0.a t.s0.n t.s0.c, .slice t.s1.a t.s1.n t.s1.c, .slice t.s2.a t.s2.n t.s2.c, .slice t.s3.a t.s3.n t.s3.c, .slice t.s4.a t.s4.n t.s4.c, .slice t.s5.a t.s5.n t.s5.c, .slice t.s6.a t.s6.n t.s6.c, .slice t.s7.a t.s7.n t.s7.c, .slice t.s8.a t.s8.n t.s8.c, .slice t.s9.a t.s9.n t.s9.c, .slice t.s10.a t.s10.n t.s10.c, .slice t.s11.a t.s11.n t.s11.c] : Array Value)[k]? := fun yy => ext2_a ((x.h).trans' yy.h)
  have rMx : ∀ yy : ExtW x.w, ∀ k : Nat, yy.w.cell? ⟨w.heap.size + 1, k, none⟩ = (#[.int .i64 lo, .slice (some ⟨b5, o5, none⟩) 2 q] : Array Value)[k]? := fun yy => ext2_b ((x.h).trans' yy.h)
  have rAx : ∀ yy : ExtW x.w, yy.w.cell? ⟨b5, o5, none⟩ = some (.int .i64 a) := fun yy => keep_cell (ext_keep ((HX).trans' yy.h)) ga
  have rBx : ∀ yy : ExtW x.w, yy.w.cell? ⟨b5, o5 + 1, none⟩ = some (.int .i64 b) := fun yy => keep_cell (ext_keep ((HX).trans' yy.h)) gb
  go_wp2_with fail
  refine region_ext (by kernel_rfl) (by kernel_rfl) ?_
  repeat (go_big_quiet_step ((go_at_call 36; with_reducible exact quiet_ext (HFA.out _ (HX.trans' (ExtW.h _))))))
  refine wpQuiet_nil ?_
  rintro _ ⟨y, rfl⟩
  have HY : Ext w y.w := HX.trans' y.h
  clear rT0 rM0 rA0 rB0 rTx rMx rAx rBx
  have rTy : ∀ yy : ExtW y.w, ∀ k : Nat, yy.w.cell? ⟨w.heap.size, k, none⟩ = (#[.slice t.s0.a t.s0.n t.s0.c, .slice t.s1.a t.s1.n t.s1.c, .slice t.s2.a t.s2.n t.s2.c, .slice t.s3.a t.s3.n t.s3.c, .slice t.s4.a t.s4.n t.s4.c, .slice t.s5.a t.s5.n t.s5.c, .slice t.s6.a t.s6.n t.s6.c, .slice t.s7.a t.s7.n t.s7.c, .slice t.s8.a t.s8.n t.s8.c, .slice t.s9.a t.s9.n t.s9.c, .slice t.s10.a t.s10.n t.s10.c, .slice t.s11.a t.s11.n t.s11.c] : Array Value)[k]? := fun yy => ext2_a ((x.h.trans' y.h).trans' yy.h)
  have rMy : ∀ yy : ExtW y.w, ∀ k : Nat, yy.w.cell? ⟨w.heap.size + 1, k, none⟩ = (#[.int .i64 lo, .slice (some ⟨b5, o5, none⟩) 2 q] : Array Value)[k]? := fun yy => ext2_b ((x.h.trans' y.h).trans' yy.h)
  have rAy : ∀ yy : ExtW y.w, yy.w.cell? ⟨b5, o5, none⟩ = some (.int .i64 a) := fun yy => keep_cell (ext_keep ((HY).trans' yy.h)) ga
  have rBy : ∀ yy : ExtW y.w, yy.w.cell? ⟨b5, o5 + 1, none⟩ = some (.int .i64 b) := fun yy => keep_cell (ext_keep ((HY).trans' yy.h)) gb
  go_wp2_with fail
  refine region_ext (by kernel_rfl) (by kernel_rfl) ?_
  repeat (go_big_quiet_step ((go_at_call 18; with_reducible exact quiet_ext (IH.out _ (HY.trans' (ExtW.h _))))))
  refine wpQuiet_nil ?_
  rintro _ ⟨z, rfl⟩
  have HZ : Ext w z.w := HY.trans' z.h
  clear rTy rMy rAy rBy
  go_wp2
  go_ret
  exact ⟨rfl, HZ⟩

set_option maxHeartbeats 3200000 in
set_option maxRecDepth 100000 in
theorem comp_c6 (t : TV) (T : Tbl) (lo a b : Int) (A : Option Addr) (n q : Nat) (w : World) (ht : TblS w t T) (hs : Srt T) (_ : NonEs T) (hF : FinD T.dec) (hz : IntS w ⟨A, n, q⟩ [a, b])
    (hE : exHas T.exc lo = false) (c1 : (clsT T lo != 0) = false) (c2 : (clsT T a != 0) = false) (hfb : FindAt w t.s9 b ⟨none, 0, 0⟩) (hfa : FindAt w t.s9 a ⟨none, 0, 0⟩) (c3 : (clsT T b == 0) = true) :
    Calls Tryd.prog 18 #[t.v, .agg #[.int .i64 lo, .slice A n q]] w fun e w' => e = .returned (.bool true) ∧ Ext w w' := by
  obtain rfl : n = 2 := hz.len.1
  obtain ⟨b5, o5, ha, ga⟩ := hz.at_ (i := 0) (by simp)
  obtain ⟨b6, o6, ha6, gb⟩ := hz.at_ (i := 1) (by simp)
  rw [ha] at ha6
  injection ha6 with ha6
  injection ha6 with e1 e2
  subst e1 e2
  subst ha
  simp only [Nat.add_zero, List.getElem_cons_zero, List.getElem_cons_succ] at ga gb
  clear hz
  have HFin := Lib.hid hF
  have HE := Lib.hid hE
  clear hE
  have HFB := Lib.hid hfb
  clear hfb
  have HFA := Lib.hid hfa
  clear hfa
  have HT := Lib.hid ht
  clear hF ht
  have hbW : Ext w ((w.alloc (.cells #[.slice t.s0.a t.s0.n t.s0.c, .slice t.s1.a t.s1.n t.s1.c, .slice t.s2.a t.s2.n t.s2.c, .slice t.s3.a t.s3.n t.s3.c, .slice t.s4.a t.s4.n t.s4.c, .slice t.s5.a t.s5.n t.s5.c, .slice t.s6.a t.s6.n t.s6.c, .slice t.s7.a t.s7.n t.s7.c, .slice t.s8.a t.s8.n t.s8.c, .slice t.s9.a t.s9.n t.s9.c, .slice t.s10.a t.s10.n t.s10.c, .slice t.s11.a t.s11.n t.s11.c] 26)).alloc (.cells #[.int .i64 lo, .slice (some ⟨b5, o5, none⟩) 2 q] 40)) := ((Ext.refl _).alloc_ _).alloc_ _
  have rT0 : ∀ yy : ExtW ((w.alloc (.cells #[.slice t.s0.a t.s0.n t.s0.c, .slice t.s1.a t.s1.n t.s1.c, .slice t.s2.a t.s2.n t.s2.c, .slice t.s3.a t.s3.n t.s3.c, .slice t.s4.a t.s4.n t.s4.c, .slice t.s5.a t.s5.n t.s5.c, .slice t.s6.a t.s6.n t.s6.c, .slice t.s7.a t.s7.n t.s7.c, .slice t.s8.a t.s8.n t.s8.c, .slice t.s9.a t.s9.n t.s9.c, .slice t.s10.a t.s10.n t.s10.c, .slice t.s11.a t.s11.n t.s11.c] 26)).alloc (.cells #[.int .i64 lo, .slice (some ⟨b5, o5, none⟩) 2 q] 40)), ∀ k : Nat, yy.w.cell? ⟨w.heap.size, k, none⟩ = (#[.slice t.s0.a t.s0.n t.s0.c, .slice t.s1.a t.s1.n t.s1.c, .slice t.s2.a t.s2.n t.s2.c, .slice t.s3.a t.s3.n t.s3.c, .slice t.s4.a t.s4.n t.s4.c, .slice t.s5.a t.s5.n t.s5.c, .slice t.s6.a t.s6.n t.s6.c, .slice t.s7.a t.s7.n t.s7.c, .slice t.s8.a t.s8.n t.s8.c, .slice t.s9.a t.s9.n t.s9.c, .slice t.s10.a t.s10.n t.s10.c, .slice t.s11.a t.s11.n t.s11.c] : Array Value)[k]? := fun yy => ext2_a ((Ext.refl _).trans' yy.h)
  have rM0 : ∀ yy : ExtW ((w.alloc (.cells #[.slice t.s0.a t.s0.n t.s0.c, .slice t.s1.a t.s1.n t.s1.c, .slice t.s2.a t.s2.n t.s2.c, .slice t.s3.a t.s3.n t.s3.c, .slice t.s4.a t.s4.n t.s4.c, .slice t.s5.a t.s5.n t.s5.c, .slice t.s6.a t.s6.n t.s6.c, .slice t.s7.a t.s7.n t.s7.c, .slice t.s8.a t.s8.n t.s8.c, .slice t.s9.a t.s9.n t.s9.c, .slice t.s10.a t.s10.n t.s10.c, .slice t.s11.a t.s11.n t.s11.c] 26)).alloc (.cells #[.int .i64 lo, .slice (some ⟨b5, o5, none⟩) 2 q] 40)), ∀ k : Nat, yy.w.cell? ⟨w.heap.size + 1, k, none⟩ = (#[.int .i64 lo, .slice (some ⟨b5, o5, none⟩) 2 q] : Array Value)[k]? := fun yy => ext2_b ((Ext.refl _).trans' yy.h)
  have rA0 : ∀ yy : ExtW ((w.alloc (.cells #[.slice t.s0.a t.s0.n t.s0.c, .slice t.s1.a t.s1.n t.s1.c, .slice t.s2.a t.s2.n t.s2.c, .slice t.s3.a t.s3.n t.s3.c, .slice t.s4.a t.s4.n t.s4.c, .slice t.s5.a t.s5.n t.s5.c, .slice t.s6.a t.s6.n t.s6.c, .slice t.s7.a t.s7.n t.s7.c, .slice t.s8.a t.s8.n t.s8.c, .slice t.s9.a t.s9.n t.s9.c, .slice t.s10.a t.s10.n t.s10.c, .slice t.s11.a t.s11.n t.s11.c] 26)).alloc (.cells #[.int .i64 lo, .slice (some ⟨b5, o5, none⟩) 2 q] 40)), yy.w.cell? ⟨b5, o5, none⟩ = some (.int .i64 a) := fun yy => keep_cell (ext_keep ((hbW).trans' yy.h)) ga
  have rB0 : ∀ yy : ExtW ((w.alloc (.cells #[.slice t.s0.a t.s0.n t.s0.c, .slice t.s1.a t.s1.n t.s1.c, .slice t.s2.a t.s2.n t.s2.c, .slice t.s3.a t.s3.n t.s3.c, .slice t.s4.a t.s4.n t.s4.c, .slice t.s5.a t.s5.n t.s5.c, .slice t.s6.a t.s6.n t.s6.c, .slice t.s7.a t.s7.n t.s7.c, .slice t.s8.a t.s8.n t.s8.c, .slice t.s9.a t.s9.n t.s9.c, .slice t.s10.a t.s10.n t.s10.c, .slice t.s11.a t.s11.n t.s11.c] 26)).alloc (.cells #[.int .i64 lo, .slice (some ⟨b5, o5, none⟩) 2 q] 40)), yy.w.cell? ⟨b5, o5 + 1, none⟩ = some (.int .i64 b) := fun yy => keep_cell (ext_keep ((hbW).trans' yy.h)) gb
  go_enter Tryd.func18, Tryd.ntmps18
  go_wp2_with fail
  refine region_ext (by kernel_rfl) (by kernel_rfl) ?_
  repeat (go_big_quiet_step (first | (go_at_call 37; exact quiet_ext (excluded_lit HE.out (HT.out.ext_ (hbW.trans' (ExtW.h _))) hs)) | (go_at_call 32; with_reducible exact quiet_ext (class_spec t T lo _ (HT.out.ext_ (hbW.trans' (ExtW.h _))) hs)) | (go_at_call 32; with_reducible exact quiet_ext (class_spec t T a _ (HT.out.ext_ (hbW.trans' (ExtW.h _))) hs)) | (go_at_call 36; with_reducible exact quiet_ext (HFB.out _ (hbW.trans' (ExtW.h _))))))
  refine wpQuiet_nil ?_
  rintro _ ⟨x, rfl⟩
  have HX : Ext w x.w := hbW.trans' x.h
  have rTx : ∀ yy : ExtW x.w, ∀ k : Nat, yy.w.cell? ⟨w.heap.size, k, none⟩ = (#[.slice t.s0.a t.s0.n t.s0.c, .slice t.s1.a t.s1.n t.s1.c, .slice t.s2.a t.s2.n t.s2.c, .slice t.s3.a t.s3.n t.s3.c, .slice t.s4.a t.s4.n t.s4.c, .slice t.s5.a t.s5.n t.s5.c, .slice t.s6.a t.s6.n t.s6.c, .slice t.s7.a t.s7.n t.s7.c, .slice t.s8.a t.s8.n t.s8.c, .slice t.s9.a t.s9.n t.s9.c, .slice t.s10.a t.s10.n t.s10.c, .slice t.s11.a t.s11.n t.s11.c] : Array Value)[k]? := fun yy => ext2_a ((x.h).trans' yy.h)
  have rMx : ∀ yy : ExtW x.w, ∀ k : Nat, yy.w.cell? ⟨w.heap.size + 1, k, none⟩ = (#[.int .i64 lo, .slice (some ⟨b5, o5, none⟩) 2 q] : Array Value)[k]? := fun yy => ext2_b ((x.h).trans' yy.h)
  have rAx : ∀ yy : ExtW x.w, yy.w.cell? ⟨b5, o5, none⟩ = some (.int .i64 a) := fun yy => keep_cell (ext_keep ((HX).trans' yy.h)) ga
  have rBx : ∀ yy : ExtW x.w, yy.w.cell? ⟨b5, o5 + 1, none⟩ = some (.int .i64 b) := fun yy => keep_cell (ext_keep ((HX).trans' yy.h)) gb
  go_wp2_with fail
  refine region_ext (by kernel_rfl) (by kernel_rfl) ?_
  repeat (go_big_quiet_step ((go_at_call 36; with_reducible exact quiet_ext (HFA.out _ (HX.trans' (ExtW.h _))))))
  refine wpQuiet_nil ?_
  rintro _ ⟨y, rfl⟩
  have HY : Ext w y.w := HX.trans' y.h
  clear rT0 rM0 rA0 rB0 rTx rMx rAx rBx
  have rTy : ∀ yy : ExtW y.w, ∀ k : Nat, yy.w.cell? ⟨w.heap.size, k, none⟩ = (#[.slice t.s0.a t.s0.n t.s0.c, .slice t.s1.a t.s1.n t.s1.c, .slice t.s2.a t.s2.n t.s2.c, .slice t.s3.a t.s3.n t.s3.c, .slice t.s4.a t.s4.n t.s4.c, .slice t.s5.a t.s5.n t.s5.c, .slice t.s6.a t.s6.n t.s6.c, .slice t.s7.a t.s7.n t.s7.c, .slice t.s8.a t.s8.n t.s8.c, .slice t.s9.a t.s9.n t.s9.c, .slice t.s10.a t.s10.n t.s10.c, .slice t.s11.a t.s11.n t.s11.c] : Array Value)[k]? := fun yy => ext2_a ((x.h.trans' y.h).trans' yy.h)
  have rMy : ∀ yy : ExtW y.w, ∀ k : Nat, yy.w.cell? ⟨w.heap.size + 1, k, none⟩ = (#[.int .i64 lo, .slice (some ⟨b5, o5, none⟩) 2 q] : Array Value)[k]? := fun yy => ext2_b ((x.h.trans' y.h).trans' yy.h)
  have rAy : ∀ yy : ExtW y.w, yy.w.cell? ⟨b5, o5, none⟩ = some (.int .i64 a) := fun yy => keep_cell (ext_keep ((HY).trans' yy.h)) ga
  have rBy : ∀ yy : ExtW y.w, yy.w.cell? ⟨b5, o5 + 1, none⟩ = some (.int .i64 b) := fun yy => keep_cell (ext_keep ((HY).trans' yy.h)) gb
  go_wp2_with fail
  refine region_ext (by kernel_rfl) (by kernel_rfl) ?_
  repeat (go_big_quiet_step (fail))
  refine wpQuiet_nil ?_
  rintro _ ⟨z, rfl⟩
  have HZ : Ext w z.w := HY.trans' z.h
  clear rTy rMy rAy rBy
  have rTz : ∀ yy : ExtW z.w, ∀ k : Nat, yy.w.cell? ⟨w.heap.size, k, none⟩ = (#[.slice t.s0.a t.s0.n t.s0.c, .slice t.s1.a t.s1.n t.s1.c, .slice t.s2.a t.s2.n t.s2.c, .slice t.s3.a t.s3.n t.s3.c, .slice t.s4.a t.s4.n t.s4.c, .slice t.s5.a t.s5.n t.s5.c, .slice t.s6.a t.s6.n t.s6.c, .slice t.s7.a t.s7.n t.s7.c, .slice t.s8.a t.s8.n t.s8.c, .slice t.s9.a t.s9.n t.s9.c, .slice t.s10.a t.s10.n t.s10.c, .slice t.s11.a t.s11.n t.s11.c] : Array Value)[k]? := fun yy => ext2_a (((x.h.trans' y.h).trans' z.h).trans' yy.h)
  have rMz : ∀ yy : ExtW z.w, ∀ k : Nat, yy.w.cell? ⟨w.heap.size + 1, k, none⟩ = (#[.int .i64 lo, .slice (some ⟨b5, o5, none⟩) 2 q] : Array Value)[k]? := fun yy => ext2_b (((x.h.trans' y.h).trans' z.h).trans' yy.h)
  have rAz : ∀ yy : ExtW z.w, yy.w.cell? ⟨b5, o5, none⟩ = some (.int .i64 a) := fun yy => keep_cell (ext_keep ((HZ).trans' yy.h)) ga
  have rBz : ∀ yy : ExtW z.w, yy.w.cell? ⟨b5, o5 + 1, none⟩ = some (.int .i64 b) := fun yy => keep_cell (ext_keep ((HZ).trans' yy.h)) gb
  go_wp2_with fail
  refine region_ext (by kernel_rfl) (by kernel_rfl) ?_
  repeat (go_big_quiet_step ((go_at_call 32; with_reducible exact quiet_ext (class_spec t T b _ (HT.out.ext_ (HZ.trans' (ExtW.h _))) hs))))
  refine wpQuiet_nil ?_
  rintro _ ⟨u, rfl⟩
  have HU : Ext w u.w := HZ.trans' u.h
  clear rTz rMz rAz rBz
  have rTu : ∀ yy : ExtW u.w, ∀ k : Nat, yy.w.cell? ⟨w.heap.size, k, none⟩ = (#[.slice t.s0.a t.s0.n t.s0.c, .slice t.s1.a t.s1.n t.s1.c, .slice t.s2.a t.s2.n t.s2.c, .slice t.s3.a t.s3.n t.s3.c, .slice t.s4.a t.s4.n t.s4.c, .slice t.s5.a t.s5.n t.s5.c, .slice t.s6.a t.s6.n t.s6.c, .slice t.s7.a t.s7.n t.s7.c, .slice t.s8.a t.s8.n t.s8.c, .slice t.s9.a t.s9.n t.s9.c, .slice t.s10.a t.s10.n t.s10.c, .slice t.s11.a t.s11.n t.s11.c] : Array Value)[k]? := fun yy => ext2_a ((((x.h.trans' y.h).trans' z.h).trans' u.h).trans' yy.h)
  have rMu : ∀ yy : ExtW u.w, ∀ k : Nat, yy.w.cell? ⟨w.heap.size + 1, k, none⟩ = (#[.int .i64 lo, .slice (some ⟨b5, o5, none⟩) 2 q] : Array Value)[k]? := fun yy => ext2_b ((((x.h.trans' y.h).trans' z.h).trans' u.h).trans' yy.h)
  have rAu : ∀ yy : ExtW u.w, yy.w.cell? ⟨b5, o5, none⟩ = some (.int .i64 a) := fun yy => keep_cell (ext_keep ((HU).trans' yy.h)) ga
  have rBu : ∀ yy : ExtW u.w, yy.w.cell? ⟨b5, o5 + 1, none⟩ = some (.int .i64 b) := fun yy => keep_cell (ext_keep ((HU).trans' yy.h)) gb
  go_wp2_with fail
  refine region_ext (by kernel_rfl) (by kernel_rfl) ?_
  repeat (go_big_quiet_step (fail))
  refine wpQuiet_nil ?_
  rintro _ ⟨v, rfl⟩
  go_wp2
  go_ret
  exact ⟨rfl, HU.trans' v.h⟩

set_option maxHeartbeats 3200000 in
set_option maxRecDepth 100000 in
theorem comp_c7 (t : TV) (T : Tbl) (lo a b : Int) (A : Option Addr) (n q : Nat) (w : World) (ht : TblS w t T) (hs : Srt T) (hn : NonEs T) (hF : FinD T.dec) (hz : IntS w ⟨A, n, q⟩ [a, b])
    (hE : exHas T.exc lo = false) (c1 : (clsT T lo != 0) = false) (c2 : (clsT T a != 0) = false) (hfb : FindAt w t.s9 b ⟨none, 0, 0⟩) (hfa : FindAt w t.s9 a ⟨none, 0, 0⟩) (c3 : (clsT T b == 0) = false) :
    Calls Tryd.prog 18 #[t.v, .agg #[.int .i64 lo, .slice A n q]] w fun e w' => e = .returned (.bool (decide (clsT T (lastT T.dec a) ≤ clsT T b))) ∧ Ext w w' := by
  obtain rfl : n = 2 := hz.len.1
  obtain ⟨b5, o5, ha, ga⟩ := hz.at_ (i := 0) (by simp)
  obtain ⟨b6, o6, ha6, gb⟩ := hz.at_ (i := 1) (by simp)
  rw [ha] at ha6
  injection ha6 with ha6
  injection ha6 with e1 e2
  subst e1 e2
  subst ha
  simp only [Nat.add_zero, List.getElem_cons_zero, List.getElem_cons_succ] at ga gb
  clear hz
  have HFin := Lib.hid hF
  have HE := Lib.hid hE
  clear hE
  have HFB := Lib.hid hfb
  clear hfb
  have HFA := Lib.hid hfa
  clear hfa
  have HT := Lib.hid ht
  clear hF ht
  have hbW : Ext w ((w.alloc (.cells #[.slice t.s0.a t.s0.n t.s0.c, .slice t.s1.a t.s1.n t.s1.c, .slice t.s2.a t.s2.n t.s2.c, .slice t.s3.a t.s3.n t.s3.c, .slice t.s4.a t.s4.n t.s4.c, .slice t.s5.a t.s5.n t.s5.c, .slice t.s6.a t.s6.n t.s6.c, .slice t.s7.a t.s7.n t.s7.c, .slice t.s8.a t.s8.n t.s8.c, .slice t.s9.a t.s9.n t.s9.c, .slice t.s10.a t.s10.n t.s10.c, .slice t.s11.a t.s11.n t.s11.c] 26)).alloc (.cells #[.int .i64 lo, .slice (some ⟨b5, o5, none⟩) 2 q] 40)) := ((Ext.refl _).alloc_ _).alloc_ _
  have rT0 : ∀ yy : ExtW ((w.alloc (.cells #[.slice t.s0.a t.s0.n t.s0.c, .slice t.s1.a t.s1.n t.s1.c, .slice t.s2.a t.s2.n t.s2.c, .slice t.s3.a t.s3.n t.s3.c, .slice t.s4.a t.s4.n t.s4.c, .slice t.s5.a t.s5.n t.s5.c, .slice t.s6.a t.s6.n t.s6.c, .slice t.s7.a t.s7.n t.s7.c, .slice t.s8.a t.s8.n t.s8.c, .slice t.s9.a t.s9.n t.s9.c, .slice t.s10.a t.s10.n t.s10.c, .slice t.s11.a t.s11.n t.s11.c] 26)).alloc (.cells #[.int .i64 lo, .slice (some ⟨b5, o5, none⟩) 2 q] 40)), ∀ k : Nat, yy.w.cell? ⟨w.heap.size, k, none⟩ = (#[.slice t.s0.a t.s0.n t.s0.c, .slice t.s1.a t.s1.n t.s1.c, .slice t.s2.a t.s2.n t.s2.c, .slice t.s3.a t.s3.n t.s3.c, .slice t.s4.a t.s4.n t.s4.c, .slice t.s5.a t.s5.n t.s5.c, .slice t.s6.a t.s6.n t.s6.c, .slice t.s7.a t.s7.n t.s7.c, .slice t.s8.a t.s8.n t.s8.c, .slice t.s9.a t.s9.n t.s9.c, .slice t.s10.a t.s10.n t.s10.c, .slice t.s11.a t.s11.n t.s11.c] : Array Value)[k]? := fun yy => ext2_a ((Ext.refl _).trans' yy.h)
  have rM0 : ∀ yy : ExtW ((w.alloc (.cells #[.slice t.s0.a t.s0.n t.s0.c, .slice t.s1.a t.s1.n t.s1.c, .slice t.s2.a t.s2.n t.s2.c, .slice t.s3.a t.s3.n t.s3.c, .slice t.s4.a t.s4.n t.s4.c, .slice t.s5.a t.s5.n t.s5.c, .slice t.s6.a t.s6.n t.s6.c, .slice t.s7.a t.s7.n t.s7.c, .slice t.s8.a t.s8.n t.s8.c, .slice t.s9.a t.s9.n t.s9.c, .slice t.s10.a t.s10.n t.s10.c, .slice t.s11.a t.s11.n t.s11.c] 26)).alloc (.cells #[.int .i64 lo, .slice (some ⟨b5, o5, none⟩) 2 q] 40)), ∀ k : Nat, yy.w.cell? ⟨w.heap.size + 1, k, none⟩ = (#[.int .i64 lo, .slice (some ⟨b5, o5, none⟩) 2 q] : Array Value)[k]? := fun yy => ext2_b ((Ext.refl _).trans' yy.h)
  have rA0 : ∀ yy : ExtW ((w.alloc (.cells #[.slice t.s0.a t.s0.n t.s0.c, .slice t.s1.a t.s1.n t.s1.c, .slice t.s2.a t.s2.n t.s2.c, .slice t.s3.a t.s3.n t.s3.c, .slice t.s4.a t.s4.n t.s4.c, .slice t.s5.a t.s5.n t.s5.c, .slice t.s6.a t.s6.n t.s6.c, .slice t.s7.a t.s7.n t.s7.c, .slice t.s8.a t.s8.n t.s8.c, .slice t.s9.a t.s9.n t.s9.c, .slice t.s10.a t.s10.n t.s10.c, .slice t.s11.a t.s11.n t.s11.c] 26)).alloc (.cells #[.int .i64 lo, .slice (some ⟨b5, o5, none⟩) 2 q] 40)), yy.w.cell? ⟨b5, o5, none⟩ = some (.int .i64 a) := fun yy => keep_cell (ext_keep ((hbW).trans' yy.h)) ga
  have rB0 : ∀ yy : ExtW ((w.alloc (.cells #[.slice t.s0.a t.s0.n t.s0.c, .slice t.s1.a t.s1.n t.s1.c, .slice t.s2.a t.s2.n t.s2.c, .slice t.s3.a t.s3.n t.s3.c, .slice t.s4.a t.s4.n t.s4.c, .slice t.s5.a t.s5.n t.s5.c, .slice t.s6.a t.s6.n t.s6.c, .slice t.s7.a t.s7.n t.s7.c, .slice t.s8.a t.s8.n t.s8.c, .slice t.s9.a t.s9.n t.s9.c, .slice t.s10.a t.s10.n t.s10.c, .slice t.s11.a t.s11.n t.s11.c] 26)).alloc (.cells #[.int .i64 lo, .slice (some ⟨b5, o5, none⟩) 2 q] 40)), yy.w.cell? ⟨b5, o5 + 1, none⟩ = some (.int .i64 b) := fun yy => keep_cell (ext_keep ((hbW).trans' yy.h)) gb
  go_enter Tryd.func18, Tryd.ntmps18
  go_wp2_with fail
  refine region_ext (by kernel_rfl) (by kernel_rfl) ?_
  repeat (go_big_quiet_step (first | (go_at_call 37; exact quiet_ext (excluded_lit HE.out (HT.out.ext_ (hbW.trans' (ExtW.h _))) hs)) | (go_at_call 32; with_reducible exact quiet_ext (class_spec t T lo _ (HT.out.ext_ (hbW.trans' (ExtW.h _))) hs)) | (go_at_call 32; with_reducible exact quiet_ext (class_spec t T a _ (HT.out.ext_ (hbW.trans' (ExtW.h _))) hs)) | (go_at_call 36; with_reducible exact quiet_ext (HFB.out _ (hbW.trans' (ExtW.h _))))))
  refine wpQuiet_nil ?_
  rintro _ ⟨x, rfl⟩
  have HX : Ext w x.w := hbW.trans' x.h
  have rTx : ∀ yy : ExtW x.w, ∀ k : Nat, yy.w.cell? ⟨w.heap.size, k, none⟩ = (#[.slice t.s0.a t.s0.n t.s0.c, .slice t.s1.a t.s1.n t.s1.c, .slice t.s2.a t.s2.n t.s2.c, .slice t.s3.a t.s3.n t.s3.c, .slice t.s4.a t.s4.n t.s4.c, .slice t.s5.a t.s5.n t.s5.c, .slice t.s6.a t.s6.n t.s6.c, .slice t.s7.a t.s7.n t.s7.c, .slice t.s8.a t.s8.n t.s8.c, .slice t.s9.a t.s9.n t.s9.c, .slice t.s10.a t.s10.n t.s10.c, .slice t.s11.a t.s11.n t.s11.c] : Array Value)[k]? := fun yy => ext2_a ((x.h).trans' yy.h)
  have rMx : ∀ yy : ExtW x.w, ∀ k : Nat, yy.w.cell? ⟨w.heap.size + 1, k, none⟩ = (#[.int .i64 lo, .slice (some ⟨b5, o5, none⟩) 2 q] : Array Value)[k]? := fun yy => ext2_b ((x.h).trans' yy.h)
  have rAx : ∀ yy : ExtW x.w, yy.w.cell? ⟨b5, o5, none⟩ = some (.int .i64 a) := fun yy => keep_cell (ext_keep ((HX).trans' yy.h)) ga
  have rBx : ∀ yy : ExtW x.w, yy.w.cell? ⟨b5, o5 + 1, none⟩ = some (.int .i64 b) := fun yy => keep_cell (ext_keep ((HX).trans' yy.h)) gb
  go_wp2_with fail
  refine region_ext (by kernel_rfl) (by kernel_rfl) ?_
  repeat (go_big_quiet_step ((go_at_call 36; with_reducible exact quiet_ext (HFA.out _ (HX.trans' (ExtW.h _))))))
  refine wpQuiet_nil ?_
  rintro _ ⟨y, rfl⟩
  have HY : Ext w y.w := HX.trans' y.h
  clear rT0 rM0 rA0 rB0 rTx rMx rAx rBx
  have rTy : ∀ yy : ExtW y.w, ∀ k : Nat, yy.w.cell? ⟨w.heap.size, k, none⟩ = (#[.slice t.s0.a t.s0.n t.s0.c, .slice t.s1.a t.s1.n t.s1.c, .slice t.s2.a t.s2.n t.s2.c, .slice t.s3.a t.s3.n t.s3.c, .slice t.s4.a t.s4.n t.s4.c, .slice t.s5.a t.s5.n t.s5.c, .slice t.s6.a t.s6.n t.s6.c, .slice t.s7.a t.s7.n t.s7.c, .slice t.s8.a t.s8.n t.s8.c, .slice t.s9.a t.s9.n t.s9.c, .slice t.s10.a t.s10.n t.s10.c, .slice t.s11.a t.s11.n t.s11.c] : Array Value)[k]? := fun yy => ext2_a ((x.h.trans' y.h).trans' yy.h)
  have rMy : ∀ yy : ExtW y.w, ∀ k : Nat, yy.w.cell? ⟨w.heap.size + 1, k, none⟩ = (#[.int .i64 lo, .slice (some ⟨b5, o5, none⟩) 2 q] : Array Value)[k]? := fun yy => ext2_b ((x.h.trans' y.h).trans' yy.h)
  have rAy : ∀ yy : ExtW y.w, yy.w.cell? ⟨b5, o5, none⟩ = some (.int .i64 a) := fun yy => keep_cell (ext_keep ((HY).trans' yy.h)) ga
  have rBy : ∀ yy : ExtW y.w, yy.w.cell? ⟨b5, o5 + 1, none⟩ = some (.int .i64 b) := fun yy => keep_cell (ext_keep ((HY).trans' yy.h)) gb
  go_wp2_with fail
  refine region_ext (by kernel_rfl) (by kernel_rfl) ?_
  repeat (go_big_quiet_step (fail))
  refine wpQuiet_nil ?_
  rintro _ ⟨z, rfl⟩
  have HZ : Ext w z.w := HY.trans' z.h
  clear rTy rMy rAy rBy
  have rTz : ∀ yy : ExtW z.w, ∀ k : Nat, yy.w.cell? ⟨w.heap.size, k, none⟩ = (#[.slice t.s0.a t.s0.n t.s0.c, .slice t.s1.a t.s1.n t.s1.c, .slice t.s2.a t.s2.n t.s2.c, .slice t.s3.a t.s3.n t.s3.c, .slice t.s4.a t.s4.n t.s4.c, .slice t.s5.a t.s5.n t.s5.c, .slice t.s6.a t.s6.n t.s6.c, .slice t.s7.a t.s7.n t.s7.c, .slice t.s8.a t.s8.n t.s8.c, .slice t.s9.a t.s9.n t.s9.c, .slice t.s10.a t.s10.n t.s10.c, .slice t.s11.a t.s11.n t.s11.c] : Array Value)[k]? := fun yy => ext2_a (((x.h.trans' y.h).trans' z.h).trans' yy.h)
  have rMz : ∀ yy : ExtW z.w, ∀ k : Nat, yy.w.cell? ⟨w.heap.size + 1, k, none⟩ = (#[.int .i64 lo, .slice (some ⟨b5, o5, none⟩) 2 q] : Array Value)[k]? := fun yy => ext2_b (((x.h.trans' y.h).trans' z.h).trans' yy.h)
  have rAz : ∀ yy : ExtW z.w, yy.w.cell? ⟨b5, o5, none⟩ = some (.int .i64 a) := fun yy => keep_cell (ext_keep ((HZ).trans' yy.h)) ga
  have rBz : ∀ yy : ExtW z.w, yy.w.cell? ⟨b5, o5 + 1, none⟩ = some (.int .i64 b) := fun yy => keep_cell (ext_keep ((HZ).trans' yy.h)) gb
  go_wp2_with fail
  refine region_ext (by kernel_rfl) (by kernel_rfl) ?_
  repeat (go_big_quiet_step ((go_at_call 32; with_reducible exact quiet_ext (class_spec t T b _ (HT.out.ext_ (HZ.trans' (ExtW.h _))) hs))))
  refine wpQuiet_nil ?_
  rintro _ ⟨u, rfl⟩
  have HU : Ext w u.w := HZ.trans' u.h
  clear rTz rMz rAz rBz
  have rTu : ∀ yy : ExtW u.w, ∀ k : Nat, yy.w.cell? ⟨w.heap.size, k, none⟩ = (#[.slice t.s0.a t.s0.n t.s0.c, .slice t.s1.a t.s1.n t.s1.c, .slice t.s2.a t.s2.n t.s2.c, .slice t.s3.a t.s3.n t.s3.c, .slice t.s4.a t.s4.n t.s4.c, .slice t.s5.a t.s5.n t.s5.c, .slice t.s6.a t.s6.n t.s6.c, .slice t.s7.a t.s7.n t.s7.c, .slice t.s8.a t.s8.n t.s8.c, .slice t.s9.a t.s9.n t.s9.c, .slice t.s10.a t.s10.n t.s10.c, .slice t.s11.a t.s11.n t.s11.c] : Array Value)[k]? := fun yy => ext2_a ((((x.h.trans' y.h).trans' z.h).trans' u.h).trans' yy.h)
  have rMu : ∀ yy : ExtW u.w, ∀ k : Nat, yy.w.cell? ⟨w.heap.size + 1, k, none⟩ = (#[.int .i64 lo, .slice (some ⟨b5, o5, none⟩) 2 q] : Array Value)[k]? := fun yy => ext2_b ((((x.h.trans' y.h).trans' z.h).trans' u.h).trans' yy.h)
  have rAu : ∀ yy : ExtW u.w, yy.w.cell? ⟨b5, o5, none⟩ = some (.int .i64 a) := fun yy => keep_cell (ext_keep ((HU).trans' yy.h)) ga
  have rBu : ∀ yy : ExtW u.w, yy.w.cell? ⟨b5, o5 + 1, none⟩ = some (.int .i64 b) := fun yy => keep_cell (ext_keep ((HU).trans' yy.h)) gb
  go_wp2_with fail
  refine region_ext (by kernel_rfl) (by kernel_rfl) ?_
  repeat (go_big_quiet_step (first | (go_at_call 38; with_reducible exact quiet_ext (last_spec t T a _ (HT.out.ext_ (HU.trans' (ExtW.h _))) hs hn HFin.out)) | (go_at_call 32; with_reducible exact quiet_ext (class_spec t T (lastT T.dec a) _ (HT.out.ext_ (HU.trans' (ExtW.h _))) hs))))
  refine wpQuiet_nil ?_
  rintro _ ⟨v, rfl⟩
  go_wp2
  go_ret
  exact ⟨rfl, HU.trans' v.h⟩

set_option maxHeartbeats 3200000 in
set_option maxRecDepth 100000 in
theorem comp_c8 (t : TV) (T : Tbl) (lo a b : Int) (A : Option Addr) (n q : Nat) (w : World) (ht : TblS w t T) (hs : Srt T) (_ : NonEs T) (hF : FinD T.dec) (hz : IntS w ⟨A, n, q⟩ [a, b])
    (hE : exHas T.exc lo = false) (c1 : (clsT T lo != 0) = false) (c2 : (clsT T a != 0) = false) (hfb : FindAt w t.s9 b ⟨none, 0, 0⟩) (b8 o8 zan zac : Nat) (hfa : FindAt w t.s9 a ⟨some ⟨b8, o8, none⟩, zan, zac⟩) (ih : ∀ w', Ext w w' → Calls Tryd.prog 18 #[t.v, .agg #[.int .i64 a, .slice (some ⟨b8, o8, none⟩) zan zac]] w' fun e w'' => e = .returned (.bool true) ∧ Ext w' w'') (c3 : (clsT T b == 0) = true) :
    Calls Tryd.prog 18 #[t.v, .agg #[.int .i64 lo, .slice A n q]] w fun e w' => e = .returned (.bool true) ∧ Ext w w' := by
  obtain rfl : n = 2 := hz.len.1
  obtain ⟨b5, o5, ha, ga⟩ := hz.at_ (i := 0) (by simp)
  obtain ⟨b6, o6, ha6, gb⟩ := hz.at_ (i := 1) (by simp)
  rw [ha] at ha6
  injection ha6 with ha6
  injection ha6 with e1 e2
  subst e1 e2
  subst ha
  simp only [Nat.add_zero, List.getElem_cons_zero, List.getElem_cons_succ] at ga gb
  clear hz
  have HFin := Lib.hid hF
  have HE := Lib.hid hE
  clear hE
  have HFB := Lib.hid hfb
  clear hfb
  have HFA := Lib.hid hfa
  clear hfa
  have IH := Lib.hid ih
  clear ih
  have HT := Lib.hid ht
  clear hF ht
  have hbW : Ext w ((w.alloc (.cells #[.slice t.s0.a t.s0.n t.s0.c, .slice t.s1.a t.s1.n t.s1.c, .slice t.s2.a t.s2.n t.s2.c, .slice t.s3.a t.s3.n t.s3.c, .slice t.s4.a t.s4.n t.s4.c, .slice t.s5.a t.s5.n t.s5.c, .slice t.s6.a t.s6.n t.s6.c, .slice t.s7.a t.s7.n t.s7.c, .slice t.s8.a t.s8.n t.s8.c, .slice t.s9.a t.s9.n t.s9.c, .slice t.s10.a t.s10.n t.s10.c, .slice t.s11.a t.s11.n t.s11.c] 26)).alloc (.cells #[.int .i64 lo, .slice (some ⟨b5, o5, none⟩) 2 q] 40)) := ((Ext.refl _).alloc_ _).alloc_ _
  have rT0 : ∀ yy : ExtW ((w.alloc (.cells #[.slice t.s0.a t.s0.n t.s0.c, .slice t.s1.a t.s1.n t.s1.c, .slice t.s2.a t.s2.n t.s2.c, .slice t.s3.a t.s3.n t.s3.c, .slice t.s4.a t.s4.n t.s4.c, .slice t.s5.a t.s5.n t.s5.c, .slice t.s6.a t.s6.n t.s6.c, .slice t.s7.a t.s7.n t.s7.c, .slice t.s8.a t.s8.n t.s8.c, .slice t.s9.a t.s9.n t.s9.c, .slice t.s10.a t.s10.n t.s10.c, .slice t.s11.a t.s11.n t.s11.c] 26)).alloc (.cells #[.int .i64 lo, .slice (some ⟨b5, o5, none⟩) 2 q] 40)), ∀ k : Nat, yy.w.cell? ⟨w.heap.size, k, none⟩ = (#[.slice t.s0.a t.s0.n t.s0.c, .slice t.s1.a t.s1.n t.s1.c, .slice t.s2.a t.s2.n t.s2.c, .slice t.s3.a t.s3.n t.s3.c, .slice t.s4.a t.s4.n t.s4.c, .slice t.s5.a t.s5.n t.s5.c, .slice t.s6.a t.s6.n t.s6.c, .slice t.s7.a t.s7.n t.s7.c, .slice t.s8.a t.s8.n t.s8.c, .slice t.s9.a t.s9.n t.s9.c, .slice t.s10.a t.s10.n t.s10.c, .slice t.s11.a t.s11.n t.s11.c] : Array Value)[k]? := fun yy => ext2_a ((Ext.refl _).trans' yy.h)
  have rM0 : ∀ yy : ExtW ((w.alloc (.cells #[.slice t.s0.a t.s0.n t.s0.c, .slice t.s1.a t.s1.n t.s1.c, .slice t.s2.a t.s2.n t.s2.c, .slice t.s3.a t.s3.n t.s3.c, .slice t.s4.a t.s4.n t.s4.c, .slice t.s5.a t.s5.n t.s5.c, .slice t.s6.a t.s6.n t.s6.c, .slice t.s7.a t.s7.n t.s7.c, .slice t.s8.a t.s8.n t.s8.c, .slice t.s9.a t.s9.n t.s9.c, .slice t.s10.a t.s10.n t.s10.c, .slice t.s11.a t.s11.n t.s11.c] 26)).alloc (.cells #[.int .i64 lo, .slice (some ⟨b5, o5, none⟩) 2 q] 40)), ∀ k : Nat, yy.w.cell? ⟨w.heap.size + 1, k, none⟩ = (#[.int .i64 lo, .slice (some ⟨b5, o5, none⟩) 2 q] : Array Value)[k]? := fun yy => ext2_b ((Ext.refl _).trans' yy.h)
  have rA0 : ∀ yy : ExtW ((w.alloc (.cells #[.slice t.s0.a t.s0.n t.s0.c, .slice t.s1.a t.s1.n t.s1.c, .slice t.s2.a t.s2.n t.s2.c, .slice t.s3.a t.s3.n t.s3.c, .slice t.s4.a t.s4.n t.s4.c, .slice t.s5.a t.s5.n t.s5.c, .slice t.s6.a t.s6.n t.s6.c, .slice t.s7.a t.s7.n t.s7.c, .slice t.s8.a t.s8.n t.s8.c, .slice t.s9.a t.s9.n t.s9.c, .slice t.s10.a t.s10.n t.s10.c, .slice t.s11.a t.s11.n t.s11.c] 26)).alloc (.cells #[.int .i64 lo, .slice (some ⟨b5, o5, none⟩) 2 q] 40)), yy.w.cell? ⟨b5, o5, none⟩ = some (.int .i64 a) := fun yy => keep_cell (ext_keep ((hbW).trans' yy.h)) ga
  have rB0 : ∀ yy : ExtW ((w.alloc (.cells #[.slice t.s0.a t.s0.n t.s0.c, .slice t.s1.a t.s1.n t.s1.c, .slice t.s2.a t.s2.n t.s2.c, .slice t.s3.a t.s3.n t.s3.c, .slice t.s4.a t.s4.n t.s4.c, .slice t.s5.a t.s5.n t.s5.c, .slice t.s6.a t.s6.n t.s6.c, .slice t.s7.a t.s7.n t.s7.c, .slice t.s8.a t.s8.n t.s8.c, .slice t.s9.a t.s9.n t.s9.c, .slice t.s10.a t.s10.n t.s10.c, .slice t.s11.a t.s11.n t.s11.c] 26)).alloc (.cells #[.int .i64 lo, .slice (some ⟨b5, o5, none⟩) 2 q] 40)), yy.w.cell? ⟨b5, o5 + 1, none⟩ = some (.int .i64 b) := fun yy => keep_cell (ext_keep ((hbW).trans' yy.h)) gb
  go_enter Tryd.func18, Tryd.ntmps18
  go_wp2_with fail
  refine region_ext (by kernel_rfl) (by kernel_rfl) ?_
  repeat (go_big_quiet_step (first | (go_at_call 37; exact quiet_ext (excluded_lit HE.out (HT.out.ext_ (hbW.trans' (ExtW.h _))) hs)) | (go_at_call 32; with_reducible exact quiet_ext (class_spec t T lo _ (HT.out.ext_ (hbW.trans' (ExtW.h _))) hs)) | (go_at_call 32; with_reducible exact quiet_ext (class_spec t T a _ (HT.out.ext_ (hbW.trans' (ExtW.h _))) hs)) | (go_at_call 36; with_reducible exact quiet_ext (HFB.out _ (hbW.trans' (ExtW.h _))))))
  refine wpQuiet_nil ?_
  rintro _ ⟨x, rfl⟩
  have HX : Ext w x.w := hbW.trans' x.h
  have rTx : ∀ yy : ExtW x.w, ∀ k : Nat, yy.w.cell? ⟨w.heap.size, k, none⟩ = (#[.slice t.s0.a t.s0.n t.s0.c, .slice t.s1.a t.s1.n t.s1.c, .slice t.s2.a t.s2.n t.s2.c, .slice t.s3.a t.s3.n t.s3.c, .slice t.s4.a t.s4.n t.s4.c, .slice t.s5.a t.s5.n t.s5.c, .slice t.s6.a t.s6.n t.s6.c, .slice t.s7.a t.s7.n t.s7.c, .slice t.s8.a t.s8.n t.s8.c, .slice t.s9.a t.s9.n t.s9.c, .slice t.s10.a t.s10.n t.s10.c, .slice t.s11.a t.s11.n t.s11.c] : Array Value)[k]? := fun yy => ext2_a ((x.h).trans' yy.h)
  have rMx : ∀ yy : ExtW x.w, ∀ k : Nat, yy.w.cell? ⟨w.heap.size + 1, k, none⟩ = (#[.int .i64 lo, .slice (some ⟨b5, o5, none⟩) 2 q] : Array Value)[k]? := fun yy => ext2_b ((x.h).trans' yy.h)
  have rAx : ∀ yy : ExtW x.w, yy.w.cell? ⟨b5, o5, none⟩ = some (.int .i64 a) := fun yy => keep_cell (ext_keep ((HX).trans' yy.h)) ga
  have rBx : ∀ yy : ExtW x.w, yy.w.cell? ⟨b5, o5 + 1, none⟩ = some (.int .i64 b) := fun yy => keep_cell (ext_keep ((HX).trans' yy.h)) gb
  go_wp2_with fail
  refine region_ext (by kernel_rfl) (by kernel_rfl) ?_
  repeat (go_big_quiet_step ((go_at_call 36; with_reducible exact quiet_ext (HFA.out _ (HX.trans' (ExtW.h _))))))
  refine wpQuiet_nil ?_
  rintro _ ⟨y, rfl⟩
  have HY : Ext w y.w := HX.trans' y.h
  clear rT0 rM0 rA0 rB0 rTx rMx rAx rBx
  have rTy : ∀ yy : ExtW y.w, ∀ k : Nat, yy.w.cell? ⟨w.heap.size, k, none⟩ = (#[.slice t.s0.a t.s0.n t.s0.c, .slice t.s1.a t.s1.n t.s1.c, .slice t.s2.a t.s2.n t.s2.c, .slice t.s3.a t.s3.n t.s3.c, .slice t.s4.a t.s4.n t.s4.c, .slice t.s5.a t.s5.n t.s5.c, .slice t.s6.a t.s6.n t.s6.c, .slice t.s7.a t.s7.n t.s7.c, .slice t.s8.a t.s8.n t.s8.c, .slice t.s9.a t.s9.n t.s9.c, .slice t.s10.a t.s10.n t.s10.c, .slice t.s11.a t.s11.n t.s11.c] : Array Value)[k]? := fun yy => ext2_a ((x.h.trans' y.h).trans' yy.h)
  have rMy : ∀ yy : ExtW y.w, ∀ k : Nat, yy.w.cell? ⟨w.heap.size + 1, k, none⟩ = (#[.int .i64 lo, .slice (some ⟨b5, o5, none⟩) 2 q] : Array Value)[k]? := fun yy => ext2_b ((x.h.trans' y.h).trans' yy.h)
  have rAy : ∀ yy : ExtW y.w, yy.w.cell? ⟨b5, o5, none⟩ = some (.int .i64 a) := fun yy => keep_cell (ext_keep ((HY).trans' yy.h)) ga
  have rBy : ∀ yy : ExtW y.w, yy.w.cell? ⟨b5, o5 + 1, none⟩ = some (.int .i64 b) := fun yy => keep_cell (ext_keep ((HY).trans' yy.h)) gb
  go_wp2_with fail
  refine region_ext (by kernel_rfl) (by kernel_rfl) ?_
  repeat (go_big_quiet_step ((go_at_call 18; with_reducible exact quiet_ext (IH.out _ (HY.trans' (ExtW.h _))))))
  refine wpQuiet_nil ?_
  rintro _ ⟨z, rfl⟩
  have HZ : Ext w z.w := HY.trans' z.h
  clear rTy rMy rAy rBy
  have rTz : ∀ yy : ExtW z.w, ∀ k : Nat, yy.w.cell? ⟨w.heap.size, k, none⟩ = (#[.slice t.s0.a t.s0.n t.s0.c, .slice t.s1.a t.s1.n t.s1.c, .slice t.s2.a t.s2.n t.s2.c, .slice t.s3.a t.s3.n t.s3.c, .slice t.s4.a t.s4.n t.s4.c, .slice t.s5.a t.s5.n t.s5.c, .slice t.s6.a t.s6.n t.s6.c, .slice t.s7.a t.s7.n t.s7.c, .slice t.s8.a t.s8.n t.s8.c, .slice t.s9.a t.s9.n t.s9.c, .slice t.s10.a t.s10.n t.s10.c, .slice t.s11.a t.s11.n t.s11.c] : Array Value)[k]? := fun yy => ext2_a (((x.h.trans' y.h).trans' z.h).trans' yy.h)
  have rMz : ∀ yy : ExtW z.w, ∀ k : Nat, yy.w.cell? ⟨w.heap.size + 1, k, none⟩ = (#[.int .i64 lo, .slice (some ⟨b5, o5, none⟩) 2 q] : Array Value)[k]? := fun yy => ext2_b (((x.h.trans' y.h).trans' z.h).trans' yy.h)
  have rAz : ∀ yy : ExtW z.w, yy.w.cell? ⟨b5, o5, none⟩ = some (.int .i64 a) := fun yy => keep_cell (ext_keep ((HZ).trans' yy.h)) ga
  have rBz : ∀ yy : ExtW z.w, yy.w.cell? ⟨b5, o5 + 1, none⟩ = some (.int .i64 b) := fun yy => keep_cell (ext_keep ((HZ).trans' yy.h)) gb
  go_wp2_with fail
  refine region_ext (by kernel_rfl) (by kernel_rfl) ?_
  repeat (go_big_quiet_step ((go_at_call 32; with_reducible exact quiet_ext (class_spec t T b _ (HT.out.ext_ (HZ.trans' (ExtW.h _))) hs))))
  refine wpQuiet_nil ?_
  rintro _ ⟨u, rfl⟩
  have HU : Ext w u.w := HZ.trans' u.h
  clear rTz rMz rAz rBz
  have rTu : ∀ yy : ExtW u.w, ∀ k : Nat, yy.w.cell? ⟨w.heap.size, k, none⟩ = (#[.slice t.s0.a t.s0.n t.s0.c, .slice t.s1.a t.s1.n t.s1.c, .slice t.s2.a t.s2.n t.s2.c, .slice t.s3.a t.s3.n t.s3.c, .slice t.s4.a t.s4.n t.s4.c, .slice t.s5.a t.s5.n t.s5.c, .slice t.s6.a t.s6.n t.s6.c, .slice t.s7.a t.s7.n t.s7.c, .slice t.s8.a t.s8.n t.s8.c, .slice t.s9.a t.s9.n t.s9.c, .slice t.s10.a t.s10.n t.s10.c, .slice t.s11.a t.s11.n t.s11.c] : Array Value)[k]? := fun yy => ext2_a ((((x.h.trans' y.h).trans' z.h).trans' u.h).trans' yy.h)
  have rMu : ∀ yy : ExtW u.w, ∀ k : Nat, yy.w.cell? ⟨w.heap.size + 1, k, none⟩ = (#[.int .i64 lo, .slice (some ⟨b5, o5, none⟩) 2 q] : Array Value)[k]? := fun yy => ext2_b ((((x.h.trans' y.h).trans' z.h).trans' u.h).trans' yy.h)
  have rAu : ∀ yy : ExtW u.w, yy.w.cell? ⟨b5, o5, none⟩ = some (.int .i64 a) := fun yy => keep_cell (ext_keep ((HU).trans' yy.h)) ga
  have rBu : ∀ yy : ExtW u.w, yy.w.cell? ⟨b5, o5 + 1, none⟩ = some (.int .i64 b) := fun yy => keep_cell (ext_keep ((HU).trans' yy.h)) gb
  go_wp2_with fail
  refine region_ext (by kernel_rfl) (by kernel_rfl) ?_
  repeat (go_big_quiet_step (fail))
  refine wpQuiet_nil ?_
  rintro _ ⟨v, rfl⟩
  go_wp2
  go_ret
  exact ⟨rfl, HU.trans' v.h⟩

set_option maxHeartbeats 3200000 in
set_option maxRecDepth 100000 in
theorem comp_c9 (t : TV) (T : Tbl) (lo a b : Int) (A : Option Addr) (n q : Nat) (w : World) (ht : TblS w t T) (hs : Srt T) (hn : NonEs T) (hF : FinD T.dec) (hz : IntS w ⟨A, n, q⟩ [a, b])
    (hE : exHas T.exc lo = false) (c1 : (clsT T lo != 0) = false) (c2 : (clsT T a != 0) = false) (hfb : FindAt w t.s9 b ⟨none, 0, 0⟩) (b8 o8 zan zac : Nat) (hfa : FindAt w t.s9 a ⟨some ⟨b8, o8, none⟩, zan, zac⟩) (ih : ∀ w', Ext w w' → Calls Tryd.prog 18 #[t.v, .agg #[.int .i64 a, .slice (some ⟨b8, o8, none⟩) zan zac]] w' fun e w'' => e = .returned (.bool true) ∧ Ext w' w'') (c3 : (clsT T b == 0) = false) :
    Calls Tryd.prog 18 #[t.v, .agg #[.int .i64 lo, .slice A n q]] w fun e w' => e = .returned (.bool (decide (clsT T (lastT T.dec a) ≤ clsT T b))) ∧ Ext w w' := by
  obtain rfl : n = 2 := hz.len.1
  obtain ⟨b5, o5, ha, ga⟩ := hz.at_ (i := 0) (by simp)
  obtain ⟨b6, o6, ha6, gb⟩ := hz.at_ (i := 1) (by simp)
  rw [ha] at ha6
  injection ha6 with ha6
  injection ha6 with e1 e2
  subst e1 e2
  subst ha
  simp only [Nat.add_zero, List.getElem_cons_zero, List.getElem_cons_succ] at ga gb
  clear hz
  have HFin := Lib.hid hF
  have HE := Lib.hid hE
  clear hE
  have HFB := Lib.hid hfb
  clear hfb
  have HFA := Lib.hid hfa
  clear hfa
  have IH := Lib.hid ih
  clear ih
  have HT := Lib.hid ht
  clear hF ht
  have hbW : Ext w ((w.alloc (.cells #[.slice t.s0.a t.s0.n t.s0.c, .slice t.s1.a t.s1.n t.s1.c, .slice t.s2.a t.s2.n t.s2.c, .slice t.s3.a t.s3.n t.s3.c, .slice t.s4.a t.s4.n t.s4.c, .slice t.s5.a t.s5.n t.s5.c, .slice t.s6.a t.s6.n t.s6.c, .slice t.s7.a t.s7.n t.s7.c, .slice t.s8.a t.s8.n t.s8.c, .slice t.s9.a t.s9.n t.s9.c, .slice t.s10.a t.s10.n t.s10.c, .slice t.s11.a t.s11.n t.s11.c] 26)).alloc (.cells #[.int .i64 lo, .slice (some ⟨b5, o5, none⟩) 2 q] 40)) := ((Ext.refl _).alloc_ _).alloc_ _
  have rT0 : ∀ yy : ExtW ((w.alloc (.cells #[.slice t.s0.a t.s0.n t.s0.c, .slice t.s1.a t.s1.n t.s1.c, .slice t.s2.a t.s2.n t.s2.c, .slice t.s3.a t.s3.n t.s3.c, .slice t.s4.a t.s4.n t.s4.c, .slice t.s5.a t.s5.n t.s5.c, .slice t.s6.a t.s6.n t.s6.c, .slice t.s7.a t.s7.n t.s7.c, .slice t.s8.a t.s8.n t.s8.c, .slice t.s9.a t.s9.n t.s9.c, .slice t.s10.a t.s10.n t.s10.c, .slice t.s11.a t.s11.n t.s11.c] 26)).alloc (.cells #[.int .i64 lo, .slice (some ⟨b5, o5, none⟩) 2 q] 40)), ∀ k : Nat, yy.w.cell? ⟨w.heap.size, k, none⟩ = (#[.slice t.s0.a t.s0.n t.s0.c, .slice t.s1.a t.s1.n t.s1.c, .slice t.s2.a t.s2.n t.s2.c, .slice t.s3.a t.s3.n t.s3.c, .slice t.s4.a t.s4.n t.s4.c, .slice t.s5.a t.s5.n t.s5.c, .slice t.s6.a t.s6.n t.s6.c, .slice t.s7.a t.s7.n t.s7.c, .slice t.s8.a t.s8.n t.s8.c, .slice t.s9.a t.s9.n t.s9.c, .slice t.s10.a t.s10.n t.s10.c, .slice t.s11.a t.s11.n t.s11.c] : Array Value)[k]? := fun yy => ext2_a ((Ext.refl _).trans' yy.h)
  have rM0 : ∀ yy : ExtW ((w.alloc (.cells #[.slice t.s0.a t.s0.n t.s0.c, .slice t.s1.a t.s1.n t.s1.c, .slice t.s2.a t.s2.n t.s2.c, .slice t.s3.a t.s3.n t.s3.c, .slice t.s4.a t.s4.n t.s4.c, .slice t.s5.a t.s5.n t.s5.c, .slice t.s6.a t.s6.n t.s6.c, .slice t.s7.a t.s7.n t.s7.c, .slice t.s8.a t.s8.n t.s8.c, .slice t.s9.a t.s9.n t.s9.c, .slice t.s10.a t.s10.n t.s10.c, .slice t.s11.a t.s11.n t.s11.c] 26)).alloc (.cells #[.int .i64 lo, .slice (some ⟨b5, o5, none⟩) 2 q] 40)), ∀ k : Nat, yy.w.cell? ⟨w.heap.size + 1, k, none⟩ = (#[.int .i64 lo, .slice (some ⟨b5, o5, none⟩) 2 q] : Array Value)[k]? := fun yy => ext2_b ((Ext.refl _).trans' yy.h)
  have rA0 : ∀ yy : ExtW ((w.alloc (.cells #[.slice t.s0.a t.s0.n t.s0.c, .slice t.s1.a t.s1.n t.s1.c, .slice t.s2.a t.s2.n t.s2.c, .slice t.s3.a t.s3.n t.s3.c, .slice t.s4.a t.s4.n t.s4.c, .slice t.s5.a t.s5.n t.s5.c, .slice t.s6.a t.s6.n t.s6.c, .slice t.s7.a t.s7.n t.s7.c, .slice t.s8.a t.s8.n t.s8.c, .slice t.s9.a t.s9.n t.s9.c, .slice t.s10.a t.s10.n t.s10.c, .slice t.s11.a t.s11.n t.s11.c] 26)).alloc (.cells #[.int .i64 lo, .slice (some ⟨b5, o5, none⟩) 2 q] 40)), yy.w.cell? ⟨b5, o5, none⟩ = some (.int .i64 a) := fun yy => keep_cell (ext_keep ((hbW).trans' yy.h)) ga
  have rB0 : ∀ yy : ExtW ((w.alloc (.cells #[.slice t.s0.a t.s0.n t.s0.c, .slice t.s1.a t.s1.n t.s1.c, .slice t.s2.a t.s2.n t.s2.c, .slice t.s3.a t.s3.n t.s3.c, .slice t.s4.a t.s4.n t.s4.c, .slice t.s5.a t.s5.n t.s5.c, .slice t.s6.a t.s6.n t.s6.c, .slice t.s7.a t.s7.n t.s7.c, .slice t.s8.a t.s8.n t.s8.c, .slice t.s9.a t.s9.n t.s9.c, .slice t.s10.a t.s10.n t.s10.c, .slice t.s11.a t.s11.n t.s11.c] 26)).alloc (.cells #[.int .i64 lo, .slice (some ⟨b5, o5, none⟩) 2 q] 40)), yy.w.cell? ⟨b5, o5 + 1, none⟩ = some (.int .i64 b) := fun yy => keep_cell (ext_keep ((hbW).trans' yy.h)) gb
  go_enter Tryd.func18, Tryd.ntmps18
  go_wp2_with fail
  refine region_ext (by kernel_rfl) (by kernel_rfl) ?_
  repeat (go_big_quiet_step (first | (go_at_call 37; exact quiet_ext (excluded_lit HE.out (HT.out.ext_ (hbW.trans' (ExtW.h _))) hs)) | (go_at_call 32; with_reducible exact quiet_ext (class_spec t T lo _ (HT.out.ext_ (hbW.trans' (ExtW.h _))) hs)) | (go_at_call 32; with_reducible exact quiet_ext (class_spec t T a _ (HT.out.ext_ (hbW.trans' (ExtW.h _))) hs)) | (go_at_call 36; with_reducible exact quiet_ext (HFB.out _ (hbW.trans' (ExtW.h _))))))
  refine wpQuiet_nil ?_
  rintro _ ⟨x, rfl⟩
  have HX : Ext w x.w := hbW.trans' x.h
  have rTx : ∀ yy : ExtW x.w, ∀ k : Nat, yy.w.cell? ⟨w.heap.size, k, none⟩ = (#[.slice t.s0.a t.s0.n t.s0.c, .slice t.s1.a t.s1.n t.s1.c, .slice t.s2.a t.s2.n t.s2.c, .slice t.s3.a t.s3.n t.s3.c, .slice t.s4.a t.s4.n t.s4.c, .slice t.s5.a t.s5.n t.s5.c, .slice t.s6.a t.s6.n t.s6.c, .slice t.s7.a t.s7.n t.s7.c, .slice t.s8.a t.s8.n t.s8.c, .slice t.s9.a t.s9.n t.s9.c, .slice t.s10.a t.s10.n t.s10.c, .slice t.s11.a t.s11.n t.s11.c] : Array Value)[k]? := fun yy => ext2_a ((x.h).trans' yy.h)
  have rMx : ∀ yy : ExtW x.w, ∀ k : Nat, yy.w.cell? ⟨w.heap.size + 1, k, none⟩ = (#[.int .i64 lo, .slice (some ⟨b5, o5, none⟩) 2 q] : Array Value)[k]? := fun yy => ext2_b ((x.h).trans' yy.h)
  have rAx : ∀ yy : ExtW x.w, yy.w.cell? ⟨b5, o5, none⟩ = some (.int .i64 a) := fun yy => keep_cell (ext_keep ((HX).trans' yy.h)) ga
  have rBx : ∀ yy : ExtW x.w, yy.w.cell? ⟨b5, o5 + 1, none⟩ = some (.int .i64 b) := fun yy => keep_cell (ext_keep ((HX).trans' yy.h)) gb
  go_wp2_with fail
  refine region_ext (by kernel_rfl) (by kernel_rfl) ?_
  repeat (go_big_quiet_step ((go_at_call 36; with_reducible exact quiet_ext (HFA.out _ (HX.trans' (ExtW.h _))))))
  refine wpQuiet_nil ?_
  rintro _ ⟨y, rfl⟩
  have HY : Ext w y.w := HX.trans' y.h
  clear rT0 rM0 rA0 rB0 rTx rMx rAx rBx
  have rTy : ∀ yy : ExtW y.w, ∀ k : Nat, yy.w.cell? ⟨w.heap.size, k, none⟩ = (#[.slice t.s0.a t.s0.n t.s0.c, .slice t.s1.a t.s1.n t.s1.c, .slice t.s2.a t.s2.n t.s2.c, .slice t.s3.a t.s3.n t.s3.c, .slice t.s4.a t.s4.n t.s4.c, .slice t.s5.a t.s5.n t.s5.c, .slice t.s6.a t.s6.n t.s6.c, .slice t.s7.a t.s7.n t.s7.c, .slice t.s8.a t.s8.n t.s8.c, .slice t.s9.a t.s9.n t.s9.c, .slice t.s10.a t.s10.n t.s10.c, .slice t.s11.a t.s11.n t.s11.c] : Array Value)[k]? := fun yy => ext2_a ((x.h.trans' y.h).trans' yy.h)
  have rMy : ∀ yy : ExtW y.w, ∀ k : Nat, yy.w.cell? ⟨w.heap.size + 1, k, none⟩ = (#[.int .i64 lo, .slice (some ⟨b5, o5, none⟩) 2 q] : Array Value)[k]? := fun yy => ext2_b ((x.h.trans' y.h).trans' yy.h)
  have rAy : ∀ yy : ExtW y.w, yy.w.cell? ⟨b5, o5, none⟩ = some (.int .i64 a) := fun yy => keep_cell (ext_keep ((HY).trans' yy.h)) ga
  have rBy : ∀ yy : ExtW y.w, yy.w.cell? ⟨b5, o5 + 1, none⟩ = some (.int .i64 b) := fun yy => keep_cell (ext_keep ((HY).trans' yy.h)) gb
  go_wp2_with fail
  refine region_ext (by kernel_rfl) (by kernel_rfl) ?_
  repeat (go_big_quiet_step ((go_at_call 18; with_reducible exact quiet_ext (IH.out _ (HY.trans' (ExtW.h _))))))
  refine wpQuiet_nil ?_
  rintro _ ⟨z, rfl⟩
  have HZ : Ext w z.w := HY.trans' z.h
  clear rTy rMy rAy rBy
  have rTz : ∀ yy : ExtW z.w, ∀ k : Nat, yy.w.cell? ⟨w.heap.size, k, none⟩ = (#[.slice t.s0.a t.s0.n t.s0.c, .slice t.s1.a t.s1.n t.s1.c, .slice t.s2.a t.s2.n t.s2.c, .slice t.s3.a t.s3.n t.s3.c, .slice t.s4.a t.s4.n t.s4.c, .slice t.s5.a t.s5.n t.s5.c, .slice t.s6.a t.s6.n t.s6.c, .slice t.s7.a t.s7.n t.s7.c, .slice t.s8.a t.s8.n t.s8.c, .slice t.s9.a t.s9.n t.s9.c, .slice t.s10.a t.s10.n t.s10.c, .slice t.s11.a t.s11.n t.s11.c] : Array Value)[k]? := fun yy => ext2_a (((x.h.trans' y.h).trans' z.h).trans' yy.h)
  have rMz : ∀ yy : ExtW z.w, ∀ k : Nat, yy.w.cell? ⟨w.heap.size + 1, k, none⟩ = (#[.int .i64 lo, .slice (some ⟨b5, o5, none⟩) 2 q] : Array Value)[k]? := fun yy => ext2_b (((x.h.trans' y.h).trans' z.h).trans' yy.h)
  have rAz : ∀ yy : ExtW z.w, yy.w.cell? ⟨b5, o5, none⟩ = some (.int .i64 a) := fun yy => keep_cell (ext_keep ((HZ).trans' yy.h)) ga
  have rBz : ∀ yy : ExtW z.w, yy.w.cell? ⟨b5, o5 + 1, none⟩ = some (.int .i64 b) := fun yy => keep_cell (ext_keep ((HZ).trans' yy.h)) gb
  go_wp2_with fail
  refine region_ext (by kernel_rfl) (by kernel_rfl) ?_
  repeat (go_big_quiet_step ((go_at_call 32; with_reducible exact quiet_ext (class_spec t T b _ (HT.out.ext_ (HZ.trans' (ExtW.h _))) hs))))
  refine wpQuiet_nil ?_
  rintro _ ⟨u, rfl⟩
  have HU : Ext w u.w := HZ.trans' u.h
  clear rTz rMz rAz rBz
  have rTu : ∀ yy : ExtW u.w, ∀ k : Nat, yy.w.cell? ⟨w.heap.size, k, none⟩ = (#[.slice t.s0.a t.s0.n t.s0.c, .slice t.s1.a t.s1.n t.s1.c, .slice t.s2.a t.s2.n t.s2.c, .slice t.s3.a t.s3.n t.s3.c, .slice t.s4.a t.s4.n t.s4.c, .slice t.s5.a t.s5.n t.s5.c, .slice t.s6.a t.s6.n t.s6.c, .slice t.s7.a t.s7.n t.s7.c, .slice t.s8.a t.s8.n t.s8.c, .slice t.s9.a t.s9.n t.s9.c, .slice t.s10.a t.s10.n t.s10.c, .slice t.s11.a t.s11.n t.s11.c] : Array Value)[k]? := fun yy => ext2_a ((((x.h.trans' y.h).trans' z.h).trans' u.h).trans' yy.h)
  have rMu : ∀ yy : ExtW u.w, ∀ k : Nat, yy.w.cell? ⟨w.heap.size + 1, k, none⟩ = (#[.int .i64 lo, .slice (some ⟨b5, o5, none⟩) 2 q] : Array Value)[k]? := fun yy => ext2_b ((((x.h.trans' y.h).trans' z.h).trans' u.h).trans' yy.h)
  have rAu : ∀ yy : ExtW u.w, yy.w.cell? ⟨b5, o5, none⟩ = some (.int .i64 a) := fun yy => keep_cell (ext_keep ((HU).trans' yy.h)) ga
  have rBu : ∀ yy : ExtW u.w, yy.w.cell? ⟨b5, o5 + 1, none⟩ = some (.int .i64 b) := fun yy => keep_cell (ext_keep ((HU).trans' yy.h)) gb
  go_wp2_with fail
  refine region_ext (by kernel_rfl) (by kernel_rfl) ?_
  repeat (go_big_quiet_step (first | (go_at_call 38; with_reducible exact quiet_ext (last_spec t T a _ (HT.out.ext_ (HU.trans' (ExtW.h _))) hs hn HFin.out)) | (go_at_call 32; with_reducible exact quiet_ext (class_spec t T (lastT T.dec a) _ (HT.out.ext_ (HU.trans' (ExtW.h _))) hs))))
  refine wpQuiet_nil ?_
  rintro _ ⟨v, rfl⟩
  go_wp2
  go_ret
  exact ⟨rfl, HU.trans' v.h⟩
end Go.Proofs.YtcjkikbnjadmfaaDoor
