/- The law ValidErrors. (By program: hm_gen.py.) -/
import Derived.Test.YtbdabjhankgcmaaGreatDoorGo
import Derived.Test.YtbdabjhankgcmaaGreatDoorHv
import Derived.Test.YtbdabjhankgcmaaGreatDoorHw
import Derived.Test.YtbdabjhankgcmaaGreatDoorOy
namespace Go.Proofs.YtbdabjhankgcmaaGreatDoor
open Go.RowKit
set_option maxHeartbeats 6400000 in
set_option maxRecDepth 100000 in
theorem verrors_spec (l m : List Int) (how at_ v : Int) (t0 : TV) (T0 : Tbl) (A : Option Addr) (n c : Nat) (A2 : Option Addr) (n2 c2 : Nat) (w : World) (h : IntS w ⟨A, n, c⟩ l) (h2 : IntS w ⟨A2, n2, c2⟩ m) (ht0 : TblS w t0 T0) (hg : Glob w) :
  Calls Tryz.prog 11 #[.slice A n c, .slice A2 n2 c2, .int .i64 how, .int .i64 at_, .int .i64 v, t0.v] w fun e w' => e = .returned (.bool true) ∧ Ext w w' := by
 have HG := Lib.hid hg
 have HM := Lib.hid h2
 have HL := Lib.hid h
 have hba : Ext w (w.alloc (.cells t0.v.cells 26)) := (Ext.refl _).alloc_ _
 have HT0 := Lib.hid ht0
 have HBA := Lib.hid hba
 clear hg h h2 ht0 hba
 go_enter Tryz.func11, Tryz.ntmps11
 go_wp2_with fail
 refine Calls.mono (tables_spec l A n c _ (HL.out.ext HBA.out) (HG.out.ext HBA.out)) ?_
 rintro e w4 ⟨t1, rfl, ht1, hb4⟩
 have HW1 := Lib.hid (made_wf l)
 have HT1 := Lib.hid ht1
 have HB4 := Lib.hid hb4
 clear ht1 hb4
 go_wp2_with fail
 refine Calls.mono (other_spec t1 (madeT l) how at_ v _ HT1.out (small_wf HW1.out)) ?_
 rintro e w5 ⟨t, T, rfl, ht, hb5⟩
 have hx6 : Ext w5 (w5.alloc (.cells t.v.cells 26)) := (Ext.refl _).alloc_ _
 have HT := Lib.hid (ht.ext_ hx6)
 have HB5 := Lib.hid (HB4.out.trans' (hb5.trans' hx6))
 clear ht hb5 hx6 HT1 HW1 HB4
 go_wp2_with fail
 refine Calls.mono (kwords_spec m A2 n2 c2 _ (HM.out.ext (HBA.out.trans' HB5.out))) ?_
 rintro e w3 ⟨A6, n6, c6, rfl, hi6, hb3⟩
 have HB3 : Hid (Ext _ w3) := Lib.hid hb3
 have HI6 := Lib.hid hi6
 have HB03 := Lib.hid (HBA.out.trans' (HB5.out.trans' HB3.out))
 have HT3 := Lib.hid (HT.out.ext_ HB3.out)
 have HT03 := Lib.hid (HT0.out.ext_ HB03.out)
 have HM3 := Lib.hid (HM.out.ext HB03.out)
 have HRT : Hid (∀ w', Ext w3 w' → ∀ k : Nat, w'.cell? ⟨w5.heap.size, k, none⟩ = t.v.cells[k]?) := Lib.hid (fun w' h => box_at (HB3.out.trans' h))
 have HRT0 : Hid (∀ w', Ext w3 w' → ∀ k : Nat, w'.cell? ⟨w.heap.size, k, none⟩ = t0.v.cells[k]?) := Lib.hid (fun w' h => box_at (HB5.out.trans' (HB3.out.trans' h)))
 clear hi6 hb3
 have HAW : Hid (∀ w', Ext w3 w' → Calls Tryz.prog 37 #[] w' fun e w'' => e = .returned (.bool true) ∧ Ext w' w'') := Lib.hid (fun w' h => vawake_spec w' (HG.out.ext (HB03.out.trans' h)))
 have C0 : Hid (∀ w', Ext w3 w' → Calls Tryz.prog 38 #[t.v, .slice A6 n6 c6] w' fun e w'' => e = .returned (.int .i64 (vchk T (wordL m))) ∧ Ext w' w'') := Lib.hid (fun w' h => vcheck_spec T t (wordL m) A6 n6 c6 w' (HT3.out.ext_ h) (HI6.out.ext h))
 have R0 : Hid (∀ w', Ext w3 w' → Calls Tryz.prog 39 #[t.v, .slice A6 n6 c6] w' fun e w'' => e = .returned (.int .i64 (vchk T (wordL m))) ∧ Ext w' w'') := Lib.hid (fun w' h => rvcheck_spec T t (wordL m) A6 n6 c6 w' (HT3.out.ext_ h) (HI6.out.ext h))
 have C1 : Hid (∀ w', Ext w3 w' → Calls Tryz.prog 38 #[t0.v, .slice A6 n6 c6] w' fun e w'' => e = .returned (.int .i64 (vchk T0 (wordL m))) ∧ Ext w' w'') := Lib.hid (fun w' h => vcheck_spec T0 t0 (wordL m) A6 n6 c6 w' (HT03.out.ext_ h) (HI6.out.ext h))
 have R1 : Hid (∀ w', Ext w3 w' → Calls Tryz.prog 39 #[t0.v, .slice A6 n6 c6] w' fun e w'' => e = .returned (.int .i64 (vchk T0 (wordL m))) ∧ Ext w' w'') := Lib.hid (fun w' h => rvcheck_spec T0 t0 (wordL m) A6 n6 c6 w' (HT03.out.ext_ h) (HI6.out.ext h))
 have C2 : Hid (∀ w', Ext w3 w' → Calls Tryz.prog 38 #[t0.v, .slice A2 n2 c2] w' fun e w'' => e = .returned (.int .i64 (vchk T0 m)) ∧ Ext w' w'') := Lib.hid (fun w' h => vcheck_spec T0 t0 m A2 n2 c2 w' (HT03.out.ext_ h) (HM3.out.ext h))
 have R2 : Hid (∀ w', Ext w3 w' → Calls Tryz.prog 39 #[t0.v, .slice A2 n2 c2] w' fun e w'' => e = .returned (.int .i64 (vchk T0 m)) ∧ Ext w' w'') := Lib.hid (fun w' h => rvcheck_spec T0 t0 m A2 n2 c2 w' (HT03.out.ext_ h) (HM3.out.ext h))
 generalize vchk T (wordL m) = v0 at *
 have ev0 : (v0 == v0) = true := by simp
 generalize vchk T0 (wordL m) = v1 at *
 have ev1 : (v1 == v1) = true := by simp
 generalize vchk T0 m = v2 at *
 have ev2 : (v2 == v2) = true := by simp
 have rT0 : ∀ yy : ExtW w3, ∀ k : Nat, yy.w.cell? ⟨w5.heap.size, k, none⟩ = t.v.cells[k]? := fun yy => HRT.out _ yy.h
 have rT1 : ∀ yy : ExtW w3, ∀ k : Nat, yy.w.cell? ⟨w.heap.size, k, none⟩ = t0.v.cells[k]? := fun yy => HRT0.out _ yy.h
 go_wp2_with fail
 refine region_ext (by kernel_rfl) (by kernel_rfl) ?_
 repeat (go_big_quiet_step (first
  | (go_at_call 37; with_reducible exact quiet_ext (HAW.out _ (ExtW.h _)))
  | (go_at_call 38; with_reducible exact quiet_ext (C0.out _ (ExtW.h _)))
  | (go_at_call 39; with_reducible exact quiet_ext (R0.out _ (ExtW.h _)))
  | (go_at_call 38; with_reducible exact quiet_ext (C1.out _ (ExtW.h _)))
  | (go_at_call 39; with_reducible exact quiet_ext (R1.out _ (ExtW.h _)))
  | (go_at_call 38; with_reducible exact quiet_ext (C2.out _ (ExtW.h _)))
  | (go_at_call 39; with_reducible exact quiet_ext (R2.out _ (ExtW.h _)))))
 refine wpQuiet_nil ?_
 rintro _ ⟨x, rfl⟩
 have hb := HB03.out.trans' x.h
 clear rT0 rT1
 go_wp2_with fail
 go_ret
 exact ⟨rfl, hb⟩
end Go.Proofs.YtbdabjhankgcmaaGreatDoor
