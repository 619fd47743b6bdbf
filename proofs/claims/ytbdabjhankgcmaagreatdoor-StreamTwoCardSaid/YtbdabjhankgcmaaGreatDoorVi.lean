/- Walk of the reference: Composable. (The cases by program: rcomp_gen.py.) -/
import Derived.Test.YtbdabjhankgcmaaGreatDoorGr
import Derived.Test.YtbdabjhankgcmaaGreatDoorR
import Derived.Test.YtbdabjhankgcmaaGreatDoorGs
import Derived.Deep.RegionLaw
namespace Go.Proofs.YtbdabjhankgcmaaGreatDoor
open Go.RowKit
set_option maxHeartbeats 1600000 in
set_option maxRecDepth 100000 in
theorem rcomp_short (t : TV) (T : Tbl) (c : Int) (w : World) (ht : TblS w t T) (hm : (mpFind T.dec c).length ≠ 2) :
  Calls Tryz.prog 98 #[t.v, .int .i64 c] w fun e w' => e = .returned (.bool false) ∧ Ext w w' := by
 have HD : Hid (MapS w ⟨t.s9.a, t.s9.n, t.s9.c⟩ T.dec) := Lib.hid ht.dec
 have hba := tw_ext w t
 obtain ⟨za, zn, zc, hz, hf⟩ := rfind_det T.dec t.s9.a t.s9.n t.s9.c c w HD.out
 have hzn := hz.len.1
 have hn2 : ((zn : Int) != 2) = true := by rw [bne_iff_ne]; omega
 have hn3 : (zn != 2) = true := by rw [bne_iff_ne]; omega
 have FC := Lib.hid hf
 clear hz hzn hf hm ht
 go_enter Tryz.func98, Tryz.ntmps98
 go_wp2_with fail
 refine (FC.out _ hba).mono ?_
 rintro e w1 ⟨rfl, hb1⟩
 have rT : ∀ yy : ExtW w1, ∀ k : Nat, yy.w.cell? ⟨w.heap.size, k, none⟩ = t.v.cells[k]? := fun yy => box_at (hb1.trans' yy.h)
 go_wp2_with fail
 refine region_ext (by kernel_rfl) (by kernel_rfl) ?_
 repeat (go_big_quiet_step (fail))
 refine wpQuiet_nil ?_
 rintro _ ⟨x, rfl⟩
 clear rT
 go_wp2_with fail
 go_ret
 exact ⟨rfl, (hba.trans' hb1).trans' x.h⟩
set_option maxHeartbeats 6400000 in
set_option maxRecDepth 100000 in
theorem rcomp_two (t : TV) (T : Tbl) (c a b : Int) (r : Bool) (w : World) (ht : TblS w t T) (hlen : T.dec.length ≤ 256) (hF : FinD T.dec) (hto : ∀ x, (mpFind T.dec x).length ≤ 18) (hm : mpFind T.dec c = [a, b])
  (ih : (mpFind T.dec a).isEmpty = false → ∀ w', Ext w w' → Calls Tryz.prog 98 #[t.v, .int .i64 a] w' fun e w'' => e = .returned (.bool r) ∧ Ext w' w'') :
  Calls Tryz.prog 98 #[t.v, .int .i64 c] w fun e w' => e = .returned (.bool (!(exHas T.exc c || decide (clsT T c ≠ 0) || decide (clsT T a ≠ 0) || !(mpFind T.dec b).isEmpty) &&
    !(!(mpFind T.dec a).isEmpty && !r) && (decide (clsT T b = 0) || decide (clsT T (lastT T.dec a) ≤ clsT T b)))) ∧ Ext w w' := by
 have HT := Lib.hid ht
 have HD : Hid (MapS w ⟨t.s9.a, t.s9.n, t.s9.c⟩ T.dec) := Lib.hid ht.dec
 have hba := tw_ext w t
 obtain ⟨za, zn, zc, hz, hfc⟩ := rfind_det T.dec t.s9.a t.s9.n t.s9.c c w HD.out
 obtain ⟨zaa, zan, zac, hza, hfa⟩ := rfind_det T.dec t.s9.a t.s9.n t.s9.c a w HD.out
 obtain ⟨zba, zbn, zbc, hzb, hfb⟩ := rfind_det T.dec t.s9.a t.s9.n t.s9.c b w HD.out
 rw [hm] at hz
 obtain rfl : zn = 2 := hz.len.1
 obtain ⟨b5, o5, ha, ga⟩ := hz.at_ (i := 0) (by simp)
 obtain ⟨b6, o6, ha6, gb⟩ := hz.at_ (i := 1) (by simp)
 subst ha
 injection ha6 with ha6
 injection ha6 with e1 e2
 subst e1 e2
 simp only [List.getElem_cons_zero, List.getElem_cons_succ, Nat.add_zero] at ga gb
 have HFULL := Lib.hid (full_last hlen hF a)
 obtain ⟨VV, hVV⟩ : ∃ VV, (!(exHas T.exc c || decide (clsT T c ≠ 0) || decide (clsT T a ≠ 0) || !(mpFind T.dec b).isEmpty) && !(!(mpFind T.dec a).isEmpty && !r) && (decide (clsT T b = 0) || decide (clsT T (lastT T.dec a) ≤ clsT T b))) = VV := ⟨_, rfl⟩
 rw [hVV]
 have hna := hza.len.1
 have hnb := hzb.len.1
 have FC := Lib.hid hfc
 go_enter Tryz.func98, Tryz.ntmps98
 go_wp2_with fail
 refine (FC.out _ hba).mono ?_
 rintro e w1 ⟨rfl, hb1⟩
 have HW : Hid (Ext w w1) := Lib.hid (hba.trans' hb1)
 have HBX := Lib.hid hb1
 have KT : Hid (∀ w', Ext w1 w' → ∀ k : Nat, w'.cell? ⟨w.heap.size, k, none⟩ = t.v.cells[k]?) := Lib.hid (fun w' h => box_at (HBX.out.trans' h))
 have KA : Hid (∀ w', Ext w1 w' → w'.cell? ⟨b5, o5, none⟩ = some (.int .i64 a)) := Lib.hid (fun w' h => keep_cell (ext_keep (HW.out.trans' h)) ga)
 have KB : Hid (∀ w', Ext w1 w' → w'.cell? ⟨b5, o5 + 1, none⟩ = some (.int .i64 b)) := Lib.hid (fun w' h => keep_cell (ext_keep (HW.out.trans' h)) gb)
 have FA : Hid (∀ w', Ext w1 w' → Calls Tryz.prog 97 #[.slice t.s9.a t.s9.n t.s9.c, .int .i64 a] w' fun e w'' => e = .returned (.slice zaa zan zac) ∧ Ext w' w'') := Lib.hid (fun w' h => hfa w' (HW.out.trans' h))
 have FB : Hid (∀ w', Ext w1 w' → Calls Tryz.prog 97 #[.slice t.s9.a t.s9.n t.s9.c, .int .i64 b] w' fun e w'' => e = .returned (.slice zba zbn zbc) ∧ Ext w' w'') := Lib.hid (fun w' h => hfb w' (HW.out.trans' h))
 have CE : Hid (∀ w', Ext w1 w' → Calls Tryz.prog 141 #[t.v, .int .i64 c] w' fun e w'' => e = .returned (.bool (exHas T.exc c)) ∧ Ext w' w'') := Lib.hid (fun w' h => rexcluded_spec t T c w' (HT.out.ext_ (HW.out.trans' h)))
 have CC : Hid (∀ w', Ext w1 w' → Calls Tryz.prog 68 #[t.v, .int .i64 c] w' fun e w'' => e = .returned (.int .i64 (clsT T c)) ∧ Ext w' w'') := Lib.hid (fun w' h => rclass_spec t T c w' (HT.out.ext_ (HW.out.trans' h)))
 have CA : Hid (∀ w', Ext w1 w' → Calls Tryz.prog 68 #[t.v, .int .i64 a] w' fun e w'' => e = .returned (.int .i64 (clsT T a)) ∧ Ext w' w'') := Lib.hid (fun w' h => rclass_spec t T a w' (HT.out.ext_ (HW.out.trans' h)))
 have CB : Hid (∀ w', Ext w1 w' → Calls Tryz.prog 68 #[t.v, .int .i64 b] w' fun e w'' => e = .returned (.int .i64 (clsT T b)) ∧ Ext w' w'') := Lib.hid (fun w' h => rclass_spec t T b w' (HT.out.ext_ (HW.out.trans' h)))
 have CL : Hid (∀ w', Ext w1 w' → Calls Tryz.prog 68 #[t.v, .int .i64 (lastT T.dec a)] w' fun e w'' => e = .returned (.int .i64 (clsT T (lastT T.dec a))) ∧ Ext w' w'') := Lib.hid (fun w' h => rclass_spec t T _ w' (HT.out.ext_ (HW.out.trans' h)))
 have CU : Hid (∀ w', Ext w1 w' → Calls Tryz.prog 100 #[t.v, .int .i64 a] w' (FullPost w' (fullT T.dec a))) := Lib.hid (fun w' h => rfull_spec t T a w' (HT.out.ext_ (HW.out.trans' h)) hto)
 have IH0 : Hid ((mpFind T.dec a).isEmpty = false → ∀ w', Ext w1 w' → Calls Tryz.prog 98 #[t.v, .int .i64 a] w' fun e w'' => e = .returned (.bool r) ∧ Ext w' w'') := Lib.hid (fun he w' h => ih he w' (HW.out.trans' h))
 have HEA : Hid ((mpFind T.dec a).isEmpty = decide (zan = 0)) := Lib.hid (by
  cases hq : mpFind T.dec a with
  | nil => rw [hq] at hna; rw [hna]; rfl
  | cons y q => rw [hq] at hna; rw [hna]; simp)
 have HEB : Hid ((mpFind T.dec b).isEmpty = decide (zbn = 0)) := Lib.hid (by
  cases hq : mpFind T.dec b with
  | nil => rw [hq] at hnb; rw [hnb]; rfl
  | cons y q => rw [hq] at hnb; rw [hnb]; simp)
 obtain ⟨vE, hE⟩ : ∃ v, exHas T.exc c = v := ⟨_, rfl⟩
 rw [hE] at CE
 obtain ⟨yc, hyc⟩ : ∃ v, clsT T c = v := ⟨_, rfl⟩
 obtain ⟨ya, hya⟩ : ∃ v, clsT T a = v := ⟨_, rfl⟩
 obtain ⟨yb, hyb⟩ : ∃ v, clsT T b = v := ⟨_, rfl⟩
 obtain ⟨yl, hyl⟩ : ∃ v, clsT T (lastT T.dec a) = v := ⟨_, rfl⟩
 rw [hyc] at CC
 rw [hya] at CA
 rw [hyb] at CB
 rw [hyl] at CL
 have HV : Hid (∀ p, decide (zan = 0) = p → ∀ q, decide (zbn = 0) = q → VV = (!(vE || decide (yc ≠ 0) || decide (ya ≠ 0) || !q) && !(!p && !r) && (decide (yb = 0) || decide (yl ≤ yb)))) := Lib.hid (fun p hp q hq => by
  rw [← hVV, hE, hyc, hya, hyb, hyl, HEA.out, HEB.out, hp, hq])
 clear hVV hE hyc hya hyb hyl ih hfa hfb hfc hza hzb hz hna hnb ga gb hb1 ht hm hto hF hlen HT HD FC
 cases vE
 case true =>
  have HF : Hid (VV = false) := Lib.hid (by rw [HV.out _ rfl _ rfl]; rfl)
  clear HV
  have rT0 : ∀ yy : ExtW w1, ∀ k : Nat, yy.w.cell? ⟨w.heap.size, k, none⟩ = t.v.cells[k]? := fun yy => KT.out _ ((Ext.refl w1).trans' yy.h)
  have rA0 : ∀ yy : ExtW w1, yy.w.cell? ⟨b5, o5, none⟩ = some (.int .i64 a) := fun yy => KA.out _ ((Ext.refl w1).trans' yy.h)
  have rB0 : ∀ yy : ExtW w1, yy.w.cell? ⟨b5, o5 + 1, none⟩ = some (.int .i64 b) := fun yy => KB.out _ ((Ext.refl w1).trans' yy.h)
  go_wp2_with fail
  refine region_ext (by kernel_rfl) (by kernel_rfl) ?_
  repeat (go_big_quiet_step (first | (go_at_call 141; with_reducible exact quiet_ext (CE.out _ ((Ext.refl w1).trans' (ExtW.h _))))))
  refine wpQuiet_nil ?_
  rintro _ ⟨x, rfl⟩
  clear rT0 rA0 rB0
  go_wp2_with fail
  go_ret
  exact ⟨ret_bool HF.out.symm, HW.out.trans' x.h⟩
 case false =>
  by_cases c1 : yc = 0
  case neg =>
   have HF : Hid (VV = false) := Lib.hid (by rw [HV.out _ rfl _ rfl]; rw [decide_eq_true (p := yc ≠ 0) c1]; rfl)
   have d1 : (yc != 0) = true := by rw [bne_iff_ne]; exact c1
   clear HV c1
   have rT0 : ∀ yy : ExtW w1, ∀ k : Nat, yy.w.cell? ⟨w.heap.size, k, none⟩ = t.v.cells[k]? := fun yy => KT.out _ ((Ext.refl w1).trans' yy.h)
   have rA0 : ∀ yy : ExtW w1, yy.w.cell? ⟨b5, o5, none⟩ = some (.int .i64 a) := fun yy => KA.out _ ((Ext.refl w1).trans' yy.h)
   have rB0 : ∀ yy : ExtW w1, yy.w.cell? ⟨b5, o5 + 1, none⟩ = some (.int .i64 b) := fun yy => KB.out _ ((Ext.refl w1).trans' yy.h)
   go_wp2_with fail
   refine region_ext (by kernel_rfl) (by kernel_rfl) ?_
   repeat (go_big_quiet_step (first | (go_at_call 141; with_reducible exact quiet_ext (CE.out _ ((Ext.refl w1).trans' (ExtW.h _)))) | (go_at_call 68; with_reducible exact quiet_ext (CC.out _ ((Ext.refl w1).trans' (ExtW.h _))))))
   refine wpQuiet_nil ?_
   rintro _ ⟨x, rfl⟩
   clear rT0 rA0 rB0
   go_wp2_with fail
   go_ret
   exact ⟨ret_bool HF.out.symm, HW.out.trans' x.h⟩
  have d1 : (yc != 0) = false := by rw [bne_eq_false_iff_eq]; exact c1
  by_cases c2 : ya = 0
  case neg =>
   have HF : Hid (VV = false) := Lib.hid (by rw [HV.out _ rfl _ rfl]; rw [decide_eq_true (p := ya ≠ 0) c2]; simp)
   have d2 : (ya != 0) = true := by rw [bne_iff_ne]; exact c2
   clear HV c1 c2
   have rT0 : ∀ yy : ExtW w1, ∀ k : Nat, yy.w.cell? ⟨w.heap.size, k, none⟩ = t.v.cells[k]? := fun yy => KT.out _ ((Ext.refl w1).trans' yy.h)
   have rA0 : ∀ yy : ExtW w1, yy.w.cell? ⟨b5, o5, none⟩ = some (.int .i64 a) := fun yy => KA.out _ ((Ext.refl w1).trans' yy.h)
   have rB0 : ∀ yy : ExtW w1, yy.w.cell? ⟨b5, o5 + 1, none⟩ = some (.int .i64 b) := fun yy => KB.out _ ((Ext.refl w1).trans' yy.h)
   go_wp2_with fail
   refine region_ext (by kernel_rfl) (by kernel_rfl) ?_
   repeat (go_big_quiet_step (first | (go_at_call 141; with_reducible exact quiet_ext (CE.out _ ((Ext.refl w1).trans' (ExtW.h _)))) | (go_at_call 68; with_reducible exact quiet_ext (CC.out _ ((Ext.refl w1).trans' (ExtW.h _)))) | (go_at_call 68; with_reducible exact quiet_ext (CA.out _ ((Ext.refl w1).trans' (ExtW.h _))))))
   refine wpQuiet_nil ?_
   rintro _ ⟨x, rfl⟩
   clear rT0 rA0 rB0
   go_wp2_with fail
   go_ret
   exact ⟨ret_bool HF.out.symm, HW.out.trans' x.h⟩
  have d2 : (ya != 0) = false := by rw [bne_eq_false_iff_eq]; exact c2
  by_cases c3 : zbn = 0
  case neg =>
   have HF : Hid (VV = false) := Lib.hid (by rw [HV.out _ rfl _ rfl]; rw [decide_eq_false (p := zbn = 0) c3]; simp)
   have d3 : decide (0 < zbn) = true := by rw [decide_eq_true_eq]; omega
   have d4 : decide ((0 : Int) < (zbn : Int)) = true := by rw [decide_eq_true_eq]; omega
   clear HV c1 c2 c3
   have rT0 : ∀ yy : ExtW w1, ∀ k : Nat, yy.w.cell? ⟨w.heap.size, k, none⟩ = t.v.cells[k]? := fun yy => KT.out _ ((Ext.refl w1).trans' yy.h)
   have rA0 : ∀ yy : ExtW w1, yy.w.cell? ⟨b5, o5, none⟩ = some (.int .i64 a) := fun yy => KA.out _ ((Ext.refl w1).trans' yy.h)
   have rB0 : ∀ yy : ExtW w1, yy.w.cell? ⟨b5, o5 + 1, none⟩ = some (.int .i64 b) := fun yy => KB.out _ ((Ext.refl w1).trans' yy.h)
   go_wp2_with fail
   refine region_ext (by kernel_rfl) (by kernel_rfl) ?_
   repeat (go_big_quiet_step (first | (go_at_call 141; with_reducible exact quiet_ext (CE.out _ ((Ext.refl w1).trans' (ExtW.h _)))) | (go_at_call 68; with_reducible exact quiet_ext (CC.out _ ((Ext.refl w1).trans' (ExtW.h _)))) | (go_at_call 68; with_reducible exact quiet_ext (CA.out _ ((Ext.refl w1).trans' (ExtW.h _)))) | (go_at_call 97; with_reducible exact quiet_ext (FB.out _ ((Ext.refl w1).trans' (ExtW.h _))))))
   refine wpQuiet_nil ?_
   rintro _ ⟨x, rfl⟩
   clear rT0 rA0 rB0
   go_wp2_with fail
   go_ret
   exact ⟨ret_bool HF.out.symm, HW.out.trans' x.h⟩
  have d3 : decide (0 < zbn) = false := by rw [decide_eq_false_iff_not]; omega
  have d4 : decide ((0 : Int) < (zbn : Int)) = false := by rw [decide_eq_false_iff_not]; omega
  have HV2 : Hid (∀ p, decide (zan = 0) = p → VV = (!(!p && !r) && (decide (yb = 0) || decide (yl ≤ yb)))) := Lib.hid (fun p hp => by
   rw [HV.out p hp true (by rw [decide_eq_true_eq]; exact c3), decide_eq_false (p := yc ≠ 0) (fun h => h c1), decide_eq_false (p := ya ≠ 0) (fun h => h c2)]; rfl)
  clear HV c1 c2 c3
  by_cases c5 : zan = 0
  case pos =>
   have d6 : decide (0 < zan) = false := by rw [decide_eq_false_iff_not]; omega
   have d7 : decide ((0 : Int) < (zan : Int)) = false := by rw [decide_eq_false_iff_not]; omega
   have HV3 : Hid (VV = (decide (yb = 0) || decide (yl ≤ yb))) := Lib.hid (by rw [HV2.out true (by rw [decide_eq_true_eq]; exact c5)]; rfl)
   clear c5 HV2
   have rT0 : ∀ yy : ExtW w1, ∀ k : Nat, yy.w.cell? ⟨w.heap.size, k, none⟩ = t.v.cells[k]? := fun yy => KT.out _ ((Ext.refl w1).trans' yy.h)
   have rA0 : ∀ yy : ExtW w1, yy.w.cell? ⟨b5, o5, none⟩ = some (.int .i64 a) := fun yy => KA.out _ ((Ext.refl w1).trans' yy.h)
   have rB0 : ∀ yy : ExtW w1, yy.w.cell? ⟨b5, o5 + 1, none⟩ = some (.int .i64 b) := fun yy => KB.out _ ((Ext.refl w1).trans' yy.h)
   go_wp2_with fail
   refine region_ext (by kernel_rfl) (by kernel_rfl) ?_
   repeat (go_big_quiet_step (first | (go_at_call 141; with_reducible exact quiet_ext (CE.out _ ((Ext.refl w1).trans' (ExtW.h _)))) | (go_at_call 68; with_reducible exact quiet_ext (CC.out _ ((Ext.refl w1).trans' (ExtW.h _)))) | (go_at_call 68; with_reducible exact quiet_ext (CA.out _ ((Ext.refl w1).trans' (ExtW.h _)))) | (go_at_call 97; with_reducible exact quiet_ext (FB.out _ ((Ext.refl w1).trans' (ExtW.h _))))))
   refine wpQuiet_nil ?_
   rintro _ ⟨x, rfl⟩
   have HX := Lib.hid x.h
   clear rT0 rA0 rB0
   have rT1 : ∀ yy : ExtW x.w, ∀ k : Nat, yy.w.cell? ⟨w.heap.size, k, none⟩ = t.v.cells[k]? := fun yy => KT.out _ (HX.out.trans' yy.h)
   have rA1 : ∀ yy : ExtW x.w, yy.w.cell? ⟨b5, o5, none⟩ = some (.int .i64 a) := fun yy => KA.out _ (HX.out.trans' yy.h)
   go_wp2_with fail
   refine region_ext (by kernel_rfl) (by kernel_rfl) ?_
   repeat (go_big_quiet_step (first | (go_at_call 97; with_reducible exact quiet_ext (FA.out _ (HX.out.trans' (ExtW.h _))))))
   refine wpQuiet_nil ?_
   rintro _ ⟨y, rfl⟩
   have HY := Lib.hid (HX.out.trans' y.h)
   clear rT1 rA1
   have rT2 : ∀ k : Nat, y.w.drew.cell? ⟨w.heap.size, k, none⟩ = t.v.cells[k]? := KT.out _ (HY.out.drew_)
   have rA2 : y.w.drew.cell? ⟨b5, o5, none⟩ = some (.int .i64 a) := KA.out _ (HY.out.drew_)
   go_wp2_with fail
   go_region_law ((go_simp
                   go_at_call 100
                   refine (CU.out _ HY.out.drew_).mono ?_
                   rintro e w3 ⟨A3, n3, c3, rfl, hi3, hb3⟩
                   have HI3 := Lib.hid hi3
                   have HB3 := Lib.hid (HY.out.drew_.trans' hb3)
                   clear hi3))
   all_goals
    clear rT2 rA2
    obtain ⟨hf1, hf2, hf3, hf4⟩ := HFULL.out
    obtain ⟨hn3, _, _⟩ := HI3.out.len
    obtain ⟨j, hj⟩ : ∃ j : Nat, n3 = j + 1 := ⟨n3 - 1, by omega⟩
    have hjl : j < (fullT T.dec a).1.length := by omega
    obtain ⟨b9, o9, ha9, g9⟩ := HI3.out.at_ hjl
    have hlast : (fullT T.dec a).1[j] = lastT T.dec a := by
     rw [← hf4, lastI, getD_lt _ _ _ (by omega)]
     congr 1
     omega
    rw [hlast] at g9
    subst ha9
    have hsub : (n3 : Int) - 1 = (j : Int) := by omega
    have hj0 : (0 : Int) ≤ (j : Int) := Int.natCast_nonneg _
    have hj1 : (j : Int) < (n3 : Int) := by omega
    have hn18 : n3 ≤ 18 := by omega
    have hn0 : 0 < n3 := by omega
    have rL3 : ∀ yy : ExtW w3, yy.w.cell? ⟨b9, o9 + j, none⟩ = some (.int .i64 (lastT T.dec a)) := ext_cell g9
    clear hj hlast hf1 hf2 hf3 hf4 hn3 hjl g9 HI3
    have rT3 : ∀ yy : ExtW w3, ∀ k : Nat, yy.w.cell? ⟨w.heap.size, k, none⟩ = t.v.cells[k]? := fun yy => KT.out _ (HB3.out.trans' yy.h)
    have rB3 : ∀ yy : ExtW w3, yy.w.cell? ⟨b5, o5 + 1, none⟩ = some (.int .i64 b) := fun yy => KB.out _ (HB3.out.trans' yy.h)
    by_cases c4 : yb = 0
    ·have d5 : (yb == 0) = true := by rw [beq_iff_eq]; exact c4
     have HF : Hid (VV = true) := Lib.hid (by rw [HV3.out, decide_eq_true (p := yb = 0) c4]; rfl)
     clear c4 HV3
     go_simp
     go_wp2_with fail
     refine region_ext (by kernel_rfl) (by kernel_rfl) ?_
     repeat (go_big_quiet_step (first | (go_at_call 68; with_reducible exact quiet_ext (CB.out _ (HB3.out.trans' (ExtW.h _))))))
     refine wpQuiet_nil ?_
     rintro _ ⟨z, rfl⟩
     clear rT3 rB3 rL3
     go_wp2_with fail
     go_ret
     exact ⟨ret_bool HF.out.symm, HW.out.trans' (HB3.out.trans' z.h)⟩
    ·have d5 : (yb == 0) = false := by rw [beq_eq_false_iff_ne]; exact c4
     obtain ⟨d, hd⟩ : ∃ d, decide (yl ≤ yb) = d := ⟨_, rfl⟩
     have HF : Hid (VV = d) := Lib.hid (by rw [HV3.out, decide_eq_false (p := yb = 0) c4, hd]; rfl)
     clear c4 HV3
     go_simp
     go_wp2_with fail
     refine region_ext (by kernel_rfl) (by kernel_rfl) ?_
     repeat (go_big_quiet_step (first | (go_at_call 68; with_reducible exact quiet_ext (CB.out _ (HB3.out.trans' (ExtW.h _)))) | (go_at_call 68; with_reducible exact quiet_ext (CL.out _ (HB3.out.trans' (ExtW.h _))))))
     refine wpQuiet_nil ?_
     rintro _ ⟨z, rfl⟩
     clear rT3 rB3 rL3
     go_wp2_with fail
     go_ret
     exact ⟨ret_bool HF.out.symm, HW.out.trans' (HB3.out.trans' z.h)⟩
  have d6 : decide (0 < zan) = true := by rw [decide_eq_true_eq]; omega
  have d7 : decide ((0 : Int) < (zan : Int)) = true := by rw [decide_eq_true_eq]; omega
  have HV2' : Hid (VV = (!(!r) && (decide (yb = 0) || decide (yl ≤ yb)))) := Lib.hid (by rw [HV2.out false (by rw [decide_eq_false_iff_not]; exact c5)]; rfl)
  have IH := Lib.hid (IH0.out (by rw [HEA.out, decide_eq_false_iff_not]; exact c5))
  clear c5 HV2
  cases r
  case false =>
   have HF : Hid (VV = false) := Lib.hid (by rw [HV2'.out]; rfl)
   clear HV2'
   have rT0 : ∀ yy : ExtW w1, ∀ k : Nat, yy.w.cell? ⟨w.heap.size, k, none⟩ = t.v.cells[k]? := fun yy => KT.out _ ((Ext.refl w1).trans' yy.h)
   have rA0 : ∀ yy : ExtW w1, yy.w.cell? ⟨b5, o5, none⟩ = some (.int .i64 a) := fun yy => KA.out _ ((Ext.refl w1).trans' yy.h)
   have rB0 : ∀ yy : ExtW w1, yy.w.cell? ⟨b5, o5 + 1, none⟩ = some (.int .i64 b) := fun yy => KB.out _ ((Ext.refl w1).trans' yy.h)
   go_wp2_with fail
   refine region_ext (by kernel_rfl) (by kernel_rfl) ?_
   repeat (go_big_quiet_step (first | (go_at_call 141; with_reducible exact quiet_ext (CE.out _ ((Ext.refl w1).trans' (ExtW.h _)))) | (go_at_call 68; with_reducible exact quiet_ext (CC.out _ ((Ext.refl w1).trans' (ExtW.h _)))) | (go_at_call 68; with_reducible exact quiet_ext (CA.out _ ((Ext.refl w1).trans' (ExtW.h _)))) | (go_at_call 97; with_reducible exact quiet_ext (FB.out _ ((Ext.refl w1).trans' (ExtW.h _))))))
   refine wpQuiet_nil ?_
   rintro _ ⟨x, rfl⟩
   have HX := Lib.hid x.h
   clear rT0 rA0 rB0
   have rT1 : ∀ yy : ExtW x.w, ∀ k : Nat, yy.w.cell? ⟨w.heap.size, k, none⟩ = t.v.cells[k]? := fun yy => KT.out _ (HX.out.trans' yy.h)
   have rA1 : ∀ yy : ExtW x.w, yy.w.cell? ⟨b5, o5, none⟩ = some (.int .i64 a) := fun yy => KA.out _ (HX.out.trans' yy.h)
   go_wp2_with fail
   refine region_ext (by kernel_rfl) (by kernel_rfl) ?_
   repeat (go_big_quiet_step (first | (go_at_call 97; with_reducible exact quiet_ext (FA.out _ (HX.out.trans' (ExtW.h _)))) | (go_at_call 98; with_reducible exact quiet_ext (IH.out _ (HX.out.trans' (ExtW.h _))))))
   refine wpQuiet_nil ?_
   rintro _ ⟨y, rfl⟩
   have HY := Lib.hid (HX.out.trans' y.h)
   clear rT1 rA1
   go_wp2_with fail
   go_ret
   exact ⟨ret_bool HF.out.symm, HW.out.trans' HY.out⟩
  have HV3 : Hid (VV = (decide (yb = 0) || decide (yl ≤ yb))) := Lib.hid (by rw [HV2'.out]; rfl)
  clear HV2'
  have rT0 : ∀ yy : ExtW w1, ∀ k : Nat, yy.w.cell? ⟨w.heap.size, k, none⟩ = t.v.cells[k]? := fun yy => KT.out _ ((Ext.refl w1).trans' yy.h)
  have rA0 : ∀ yy : ExtW w1, yy.w.cell? ⟨b5, o5, none⟩ = some (.int .i64 a) := fun yy => KA.out _ ((Ext.refl w1).trans' yy.h)
  have rB0 : ∀ yy : ExtW w1, yy.w.cell? ⟨b5, o5 + 1, none⟩ = some (.int .i64 b) := fun yy => KB.out _ ((Ext.refl w1).trans' yy.h)
  go_wp2_with fail
  refine region_ext (by kernel_rfl) (by kernel_rfl) ?_
  repeat (go_big_quiet_step (first | (go_at_call 141; with_reducible exact quiet_ext (CE.out _ ((Ext.refl w1).trans' (ExtW.h _)))) | (go_at_call 68; with_reducible exact quiet_ext (CC.out _ ((Ext.refl w1).trans' (ExtW.h _)))) | (go_at_call 68; with_reducible exact quiet_ext (CA.out _ ((Ext.refl w1).trans' (ExtW.h _)))) | (go_at_call 97; with_reducible exact quiet_ext (FB.out _ ((Ext.refl w1).trans' (ExtW.h _))))))
  refine wpQuiet_nil ?_
  rintro _ ⟨x, rfl⟩
  have HX := Lib.hid x.h
  clear rT0 rA0 rB0
  have rT1 : ∀ yy : ExtW x.w, ∀ k : Nat, yy.w.cell? ⟨w.heap.size, k, none⟩ = t.v.cells[k]? := fun yy => KT.out _ (HX.out.trans' yy.h)
  have rA1 : ∀ yy : ExtW x.w, yy.w.cell? ⟨b5, o5, none⟩ = some (.int .i64 a) := fun yy => KA.out _ (HX.out.trans' yy.h)
  go_wp2_with fail
  refine region_ext (by kernel_rfl) (by kernel_rfl) ?_
  repeat (go_big_quiet_step (first | (go_at_call 97; with_reducible exact quiet_ext (FA.out _ (HX.out.trans' (ExtW.h _)))) | (go_at_call 98; with_reducible exact quiet_ext (IH.out _ (HX.out.trans' (ExtW.h _))))))
  refine wpQuiet_nil ?_
  rintro _ ⟨y, rfl⟩
  have HY := Lib.hid (HX.out.trans' y.h)
  clear rT1 rA1
  have rT2 : ∀ k : Nat, y.w.drew.cell? ⟨w.heap.size, k, none⟩ = t.v.cells[k]? := KT.out _ (HY.out.drew_)
  have rA2 : y.w.drew.cell? ⟨b5, o5, none⟩ = some (.int .i64 a) := KA.out _ (HY.out.drew_)
  go_wp2_with fail
  go_region_law ((go_simp
                  go_at_call 100
                  refine (CU.out _ HY.out.drew_).mono ?_
                  rintro e w3 ⟨A3, n3, c3, rfl, hi3, hb3⟩
                  have HI3 := Lib.hid hi3
                  have HB3 := Lib.hid (HY.out.drew_.trans' hb3)
                  clear hi3))
  all_goals
   clear rT2 rA2
   obtain ⟨hf1, hf2, hf3, hf4⟩ := HFULL.out
   obtain ⟨hn3, _, _⟩ := HI3.out.len
   obtain ⟨j, hj⟩ : ∃ j : Nat, n3 = j + 1 := ⟨n3 - 1, by omega⟩
   have hjl : j < (fullT T.dec a).1.length := by omega
   obtain ⟨b9, o9, ha9, g9⟩ := HI3.out.at_ hjl
   have hlast : (fullT T.dec a).1[j] = lastT T.dec a := by
    rw [← hf4, lastI, getD_lt _ _ _ (by omega)]
    congr 1
    omega
   rw [hlast] at g9
   subst ha9
   have hsub : (n3 : Int) - 1 = (j : Int) := by omega
   have hj0 : (0 : Int) ≤ (j : Int) := Int.natCast_nonneg _
   have hj1 : (j : Int) < (n3 : Int) := by omega
   have hn18 : n3 ≤ 18 := by omega
   have hn0 : 0 < n3 := by omega
   have rL3 : ∀ yy : ExtW w3, yy.w.cell? ⟨b9, o9 + j, none⟩ = some (.int .i64 (lastT T.dec a)) := ext_cell g9
   clear hj hlast hf1 hf2 hf3 hf4 hn3 hjl g9 HI3
   have rT3 : ∀ yy : ExtW w3, ∀ k : Nat, yy.w.cell? ⟨w.heap.size, k, none⟩ = t.v.cells[k]? := fun yy => KT.out _ (HB3.out.trans' yy.h)
   have rB3 : ∀ yy : ExtW w3, yy.w.cell? ⟨b5, o5 + 1, none⟩ = some (.int .i64 b) := fun yy => KB.out _ (HB3.out.trans' yy.h)
   by_cases c4 : yb = 0
   ·have d5 : (yb == 0) = true := by rw [beq_iff_eq]; exact c4
    have HF : Hid (VV = true) := Lib.hid (by rw [HV3.out, decide_eq_true (p := yb = 0) c4]; rfl)
    clear c4 HV3
    go_simp
    go_wp2_with fail
    refine region_ext (by kernel_rfl) (by kernel_rfl) ?_
    repeat (go_big_quiet_step (first | (go_at_call 68; with_reducible exact quiet_ext (CB.out _ (HB3.out.trans' (ExtW.h _))))))
    refine wpQuiet_nil ?_
    rintro _ ⟨z, rfl⟩
    clear rT3 rB3 rL3
    go_wp2_with fail
    go_ret
    exact ⟨ret_bool HF.out.symm, HW.out.trans' (HB3.out.trans' z.h)⟩
   ·have d5 : (yb == 0) = false := by rw [beq_eq_false_iff_ne]; exact c4
    obtain ⟨d, hd⟩ : ∃ d, decide (yl ≤ yb) = d := ⟨_, rfl⟩
    have HF : Hid (VV = d) := Lib.hid (by rw [HV3.out, decide_eq_false (p := yb = 0) c4, hd]; rfl)
    clear c4 HV3
    go_simp
    go_wp2_with fail
    refine region_ext (by kernel_rfl) (by kernel_rfl) ?_
    repeat (go_big_quiet_step (first | (go_at_call 68; with_reducible exact quiet_ext (CB.out _ (HB3.out.trans' (ExtW.h _)))) | (go_at_call 68; with_reducible exact quiet_ext (CL.out _ (HB3.out.trans' (ExtW.h _))))))
    refine wpQuiet_nil ?_
    rintro _ ⟨z, rfl⟩
    clear rT3 rB3 rL3
    go_wp2_with fail
    go_ret
    exact ⟨ret_bool HF.out.symm, HW.out.trans' (HB3.out.trans' z.h)⟩
theorem rcomp_fuel (T : Tbl) (hlen : T.dec.length ≤ 256) (hF : FinD T.dec) (hto : ∀ x, (mpFind T.dec x).length ≤ 18) : ∀ (k : Nat) (t : TV) (c : Int) (w : World), TblS w t T →
  (∀ a b, mpFind T.dec c = [a, b] → rkD T.dec a < k) → Calls Tryz.prog 98 #[t.v, .int .i64 c] w fun e w' => e = .returned (.bool (compN T k ⟨c, mpFind T.dec c⟩)) ∧ Ext w w' := by
 intro k
 have hshort : ∀ l : List Int, (∀ a b, l ≠ [a, b]) → l.length ≠ 2 := by
  intro l hno
  match l, hno with
  | [], _ => simp
  | [_], _ => simp
  | [a, b], hno => exact absurd rfl (hno a b)
  | _ :: _ :: _ :: _, _ => simp
 induction k with
 | zero =>
  intro t c w ht hr
  have hno : ∀ a b, mpFind T.dec c ≠ [a, b] := fun a b h => by have := hr a b h; omega
  exact Calls.res_bool (rcomp_short t T c w ht (hshort _ hno)) (compN_other T 0 c _ hno).symm
 | succ k ih =>
  intro t c w ht hr
  by_cases hno : ∀ a b, mpFind T.dec c ≠ [a, b]
  ·exact Calls.res_bool (rcomp_short t T c w ht (hshort _ hno)) (compN_other T (k + 1) c _ hno).symm
  ·obtain ⟨a, b, hm⟩ : ∃ a b, mpFind T.dec c = [a, b] := Classical.byContradiction fun h => hno fun a b e => h ⟨a, b, e⟩
   have hrk := hr a b hm
   have h := rcomp_two t T c a b (compN T k ⟨a, mpFind T.dec a⟩) w ht hlen hF hto hm (fun _ w' hw => ih t a w' (ht.ext_ hw) fun a' b' h' => by
    have := rkD_step hF (c := a) (d := a') (by rw [h']; simp)
    omega)
   rw [hm, compN_two]
   exact h
theorem rcomp_spec (T : Tbl) (hlen : T.dec.length ≤ 256) (hF : FinD T.dec) (hto : ∀ x, (mpFind T.dec x).length ≤ 18) (t : TV) (c : Int) (w : World) (ht : TblS w t T) :
  Calls Tryz.prog 98 #[t.v, .int .i64 c] w fun e w' => e = .returned (.bool (compT T ⟨c, mpFind T.dec c⟩)) ∧ Ext w w' :=
 rcomp_fuel T hlen hF hto (T.dec.length + 2) t c w ht fun a _ _ => by have := rkD_lt hF a; omega
end Go.Proofs.YtbdabjhankgcmaaGreatDoor
