/- The law ValidMade. (By program: hm_gen.py.) -/
import Derived.Test.YtbdabjhankgcmaaGreatDoorGo
import Derived.Test.YtbdabjhankgcmaaGreatDoorHv
import Derived.Test.YtbdabjhankgcmaaGreatDoorHw
import Derived.Test.YtbdabjhankgcmaaGreatDoorPt
namespace Go.Proofs.YtbdabjhankgcmaaGreatDoor
open Go.RowKit
set_option maxHeartbeats 6400000 in
set_option maxRecDepth 100000 in
theorem vmade_spec (l m o r : List Int) (A : Option Addr) (n c : Nat) (A2 : Option Addr) (n2 c2 : Nat) (A3 : Option Addr) (n3 c3 : Nat) (A4 : Option Addr) (n4 c4 : Nat) (w : World) (h : IntS w ⟨A, n, c⟩ l) (h2 : IntS w ⟨A2, n2, c2⟩ m) (h3 : IntS w ⟨A3, n3, c3⟩ o) (h4 : IntS w ⟨A4, n4, c4⟩ r) (hg : Glob w) :
  Calls Tryz.prog 10 #[.slice A n c, .slice A2 n2 c2, .slice A3 n3 c3, .slice A4 n4 c4] w fun e w' => e = .returned (.bool true) ∧ Ext w w' := by
 have HG := Lib.hid hg
 have HM := Lib.hid h2
 have HL := Lib.hid h
 have HO := Lib.hid h3
 have HR := Lib.hid h4
 clear hg h h2 h3 h4
 go_enter Tryz.func10, Tryz.ntmps10
 go_wp2_with fail
 refine Calls.mono (tables_spec l A n c _ HL.out HG.out) ?_
 rintro e w1 ⟨t, rfl, ht, hb1⟩
 have hx1 : Ext w1 (w1.alloc (.cells t.v.cells 26)) := (Ext.refl _).alloc_ _
 have HT := Lib.hid (ht.ext_ hx1)
 have HB01 := Lib.hid ((hb1.trans' hx1))
 clear ht hb1 hx1
 generalize madeT l = T at *
 go_wp2_with fail
 refine Calls.mono (kwords_spec m A2 n2 c2 _ (HM.out.ext HB01.out)) ?_
 rintro e w2 ⟨A5, n5, c5, rfl, hi5, hb2⟩
 have HB2 : Hid (Ext _ w2) := Lib.hid hb2
 have HI5 := Lib.hid hi5
 clear hi5 hb2
 go_wp2_with fail
 refine Calls.mono (kpoints_spec o A3 n3 c3 _ (HO.out.ext (HB01.out.trans' HB2.out))) ?_
 rintro e w3 ⟨A6, n6, c6, rfl, hi6, hb3⟩
 have HB3 := Lib.hid (HB2.out.trans' hb3)
 have HI6 := Lib.hid hi6
 have HI5' := Lib.hid (HI5.out.ext hb3)
 have HB03 := Lib.hid (HB01.out.trans' HB3.out)
 have HT3 := Lib.hid (HT.out.ext_ HB3.out)
 have HR3 := Lib.hid (HR.out.ext HB03.out)
 have HRT : Hid (∀ w', Ext w3 w' → ∀ k : Nat, w'.cell? ⟨w1.heap.size, k, none⟩ = t.v.cells[k]?) := Lib.hid (fun w' h => box_at (HB3.out.trans' h))
 clear hi6 hb3 HI5
 have HAW : Hid (∀ w', Ext w3 w' → Calls Tryz.prog 37 #[] w' fun e w'' => e = .returned (.bool true) ∧ Ext w' w'') := Lib.hid (fun w' h => vawake_spec w' (HG.out.ext (HB03.out.trans' h)))
 have C0 : Hid (∀ w', Ext w3 w' → Calls Tryz.prog 38 #[t.v, .slice A5 n5 c5] w' fun e w'' => e = .returned (.int .i64 (vchk T (wordL m))) ∧ Ext w' w'') := Lib.hid (fun w' h => vcheck_spec T t (wordL m) A5 n5 c5 w' (HT3.out.ext_ h) (HI5'.out.ext h))
 have R0 : Hid (∀ w', Ext w3 w' → Calls Tryz.prog 39 #[t.v, .slice A5 n5 c5] w' fun e w'' => e = .returned (.int .i64 (vchk T (wordL m))) ∧ Ext w' w'') := Lib.hid (fun w' h => rvcheck_spec T t (wordL m) A5 n5 c5 w' (HT3.out.ext_ h) (HI5'.out.ext h))
 have C1 : Hid (∀ w', Ext w3 w' → Calls Tryz.prog 38 #[t.v, .slice A6 n6 c6] w' fun e w'' => e = .returned (.int .i64 (vchk T (pointsL o))) ∧ Ext w' w'') := Lib.hid (fun w' h => vcheck_spec T t (pointsL o) A6 n6 c6 w' (HT3.out.ext_ h) (HI6.out.ext h))
 have R1 : Hid (∀ w', Ext w3 w' → Calls Tryz.prog 39 #[t.v, .slice A6 n6 c6] w' fun e w'' => e = .returned (.int .i64 (vchk T (pointsL o))) ∧ Ext w' w'') := Lib.hid (fun w' h => rvcheck_spec T t (pointsL o) A6 n6 c6 w' (HT3.out.ext_ h) (HI6.out.ext h))
 have Y1 : Hid (∀ w', Ext w3 w' → Calls Tryz.prog 40 #[.slice A6 n6 c6] w' fun e w'' => e = .returned (.bool (hypB (pointsL o))) ∧ Ext w' w'') := Lib.hid (fun w' h => hyphens_spec (pointsL o) A6 n6 c6 w' (HI6.out.ext h))
 have Z1 : Hid (∀ w', Ext w3 w' → Calls Tryz.prog 41 #[.slice A6 n6 c6] w' fun e w'' => e = .returned (.bool (hypB (pointsL o))) ∧ Ext w' w'') := Lib.hid (fun w' h => rhyphens_spec (pointsL o) A6 n6 c6 w' (HI6.out.ext h))
 have C2 : Hid (∀ w', Ext w3 w' → Calls Tryz.prog 38 #[t.v, .slice A4 n4 c4] w' fun e w'' => e = .returned (.int .i64 (vchk T r)) ∧ Ext w' w'') := Lib.hid (fun w' h => vcheck_spec T t r A4 n4 c4 w' (HT3.out.ext_ h) (HR3.out.ext h))
 have R2 : Hid (∀ w', Ext w3 w' → Calls Tryz.prog 39 #[t.v, .slice A4 n4 c4] w' fun e w'' => e = .returned (.int .i64 (vchk T r)) ∧ Ext w' w'') := Lib.hid (fun w' h => rvcheck_spec T t r A4 n4 c4 w' (HT3.out.ext_ h) (HR3.out.ext h))
 have Y2 : Hid (∀ w', Ext w3 w' → Calls Tryz.prog 40 #[.slice A4 n4 c4] w' fun e w'' => e = .returned (.bool (hypB r)) ∧ Ext w' w'') := Lib.hid (fun w' h => hyphens_spec r A4 n4 c4 w' (HR3.out.ext h))
 have Z2 : Hid (∀ w', Ext w3 w' → Calls Tryz.prog 41 #[.slice A4 n4 c4] w' fun e w'' => e = .returned (.bool (hypB r)) ∧ Ext w' w'') := Lib.hid (fun w' h => rhyphens_spec r A4 n4 c4 w' (HR3.out.ext h))
 generalize vchk T (wordL m) = v0 at *
 have ev0 : (v0 == v0) = true := by simp
 generalize vchk T (pointsL o) = v1 at *
 have ev1 : (v1 == v1) = true := by simp
 generalize vchk T r = v2 at *
 have ev2 : (v2 == v2) = true := by simp
 generalize hypB (pointsL o) = p1 at *
 have ep1 : (p1 == p1) = true := by simp
 generalize hypB r = p2 at *
 have ep2 : (p2 == p2) = true := by simp
 have rT0 : ∀ yy : ExtW w3, ∀ k : Nat, yy.w.cell? ⟨w1.heap.size, k, none⟩ = t.v.cells[k]? := fun yy => HRT.out _ yy.h
 go_wp2_with fail
 refine region_ext (by kernel_rfl) (by kernel_rfl) ?_
 repeat (go_big_quiet_step (first
  | (go_at_call 37; with_reducible exact quiet_ext (HAW.out _ (ExtW.h _)))
  | (go_at_call 38; with_reducible exact quiet_ext (C0.out _ (ExtW.h _)))
  | (go_at_call 39; with_reducible exact quiet_ext (R0.out _ (ExtW.h _)))
  | (go_at_call 38; with_reducible exact quiet_ext (C1.out _ (ExtW.h _)))
  | (go_at_call 39; with_reducible exact quiet_ext (R1.out _ (ExtW.h _)))
  | (go_at_call 38; with_reducible exact quiet_ext (C2.out _ (ExtW.h _)))
  | (go_at_call 39; with_reducible exact quiet_ext (R2.out _ (ExtW.h _)))
  | (go_at_call 40; with_reducible exact quiet_ext (Y1.out _ (ExtW.h _)))
  | (go_at_call 41; with_reducible exact quiet_ext (Z1.out _ (ExtW.h _)))
  | (go_at_call 40; with_reducible exact quiet_ext (Y2.out _ (ExtW.h _)))
  | (go_at_call 41; with_reducible exact quiet_ext (Z2.out _ (ExtW.h _)))))
 refine wpQuiet_nil ?_
 rintro _ ⟨x, rfl⟩
 have hb := HB03.out.trans' x.h
 clear rT0
 go_wp2_with fail
 go_ret
 exact ⟨rfl, hb⟩
end Go.Proofs.YtbdabjhankgcmaaGreatDoor
