/- The law ValidNormal. (By program: hm_gen.py.) -/
import Derived.Test.YtbdabjhankgcmaaGreatDoorGo
import Derived.Test.YtbdabjhankgcmaaGreatDoorHv
import Derived.Test.YtbdabjhankgcmaaGreatDoorHw
import Derived.Test.YtbdabjhankgcmaaGreatDoorGh
namespace Go.Proofs.YtbdabjhankgcmaaGreatDoor
open Go.RowKit
theorem vchk_zero {T : Tbl} {l : List Int} (h : vchk T l = 0) : ordErr T l = 0 ∧ isNfc T l = true ∧ catT T (l.getD 0 0) ≠ 2 ∧ ∀ c ∈ l, staT T c = 1 ∨ staT T c = 4 := by
 unfold vchk at h
 by_cases h0 : ordErr T l = 0
 ·rw [if_neg (by rw [h0]; simp)] at h
  by_cases h1 : l.length = 0
  ·rw [if_pos h1] at h; omega
  ·rw [if_neg h1] at h
   by_cases h2 : isNfc T l = false
   ·rw [if_pos h2] at h; omega
   ·rw [if_neg h2] at h
    by_cases h3 : hypB l = false
    ·rw [if_pos h3] at h; omega
    ·rw [if_neg h3] at h
     by_cases h4 : catT T (l.getD 0 0) = 2
     ·rw [if_pos h4] at h; omega
     ·rw [if_neg h4] at h
      by_cases h5 : l.any (badB T) = true
      ·rw [if_pos h5] at h; omega
      ·refine ⟨h0, by simpa using h2, h4, fun c hc => ?_⟩
       have h6 : badB T c = false := by
        cases hb : badB T c
        ·rfl
        ·exact absurd (List.any_eq_true.2 ⟨c, hc, hb⟩) h5
       unfold badB at h6
       simp only [Bool.or_eq_false_iff, Bool.and_eq_false_iff, bne_eq_false_iff_eq] at h6
       exact h6.2
 ·rw [if_pos h0] at h; exact absurd h h0
theorem results_tmp3' {fn : Func} {t u v : Tmp} (h : fn.results = #[.tmp t, .tmp u, .tmp v]) (tmps : Array Value) (P : Program) (w : World) :
  (results fn tmps).run P w = .ok (.tuple #[tmps.getD t undef, tmps.getD u undef, tmps.getD v undef]) w := by
 simp [results, h]
def MpLoop (wb : World) (l : List Int) (gh : Nat) (s8 s19 : Value) (wx : World) : Prop :=
 ∃ (k : Nat) (A : Option Addr) (c : Nat), k + gh = l.length ∧ s19 = .int .i64 k ∧ s8 = .slice A k c ∧ Hid (OwnI wx wb.heap.size A k c (l.take k)) ∧ Hid (Ext wb wx)
set_option maxHeartbeats 3200000 in
set_option maxRecDepth 100000 in
theorem rmap_ok (T : Tbl) (t : TV) (l : List Int) (A : Option Addr) (n c : Nat) (w : World) (ht : TblS w t T) (hi : IntS w ⟨A, n, c⟩ l) (hz : ordErr T l = 0) (hs : ∀ c ∈ l, staT T c = 1 ∨ staT T c = 4) :
  Calls Tryz.prog 86 #[t.v, .slice A n c] w fun e w' => ∃ B m d, e = .returned (.tuple #[.slice B m d, .int .i64 0, .int .i64 0]) ∧ IntS w' ⟨B, m, d⟩ l ∧ Ext w w' := by
 have hba := tw_ext w t
 have HT := Lib.hid (ht.ext_ hba)
 have HI := Lib.hid (hi.ext hba)
 have HBA := Lib.hid hba
 have hn := hi.len.1
 subst hn
 have hl9 := (ord_zero hz).2
 have HSH := Lib.hid (shOk_sta (wf_shape (ord_zero hz).1))
 have HS := Lib.hid hs
 have HZ := Lib.hid hz
 clear ht hi hz hs hba
 go_enter Tryz.func86, Tryz.ntmps86
 go_wp2_with fail
 refine (racc_spec t T l A _ c _ HT.out HI.out).mono ?_
 rintro e w1 ⟨rfl, hb1⟩
 rw [HZ.out]
 have HB1 := Lib.hid hb1
 clear hb1
 go_wp2_with fail
 go_loopg [8, 19] l.length (fun gh s8 s19 wx => MpLoop w1 l gh s8 s19 wx)
 case atStart => exact ⟨0, none, 0, by omega, rfl, rfl, Lib.hid (Own.nil_ _ _ _ _), Lib.hid (Ext.refl _)⟩
 case round =>
  obtain ⟨k, A2, c2, hkg, rfl, rfl, HO, HB⟩ := hrel
  have HBW := Lib.hid (HB1.out.trans' HB.out)
  by_cases hlt : k < l.length
  ·obtain ⟨gk', rfl⟩ : ∃ g', gk = g' + 1 := ⟨gk - 1, by omega⟩
   obtain ⟨b, o, hA, hcx⟩ := (HI.out.ext HBW.out).at_ hlt
   subst hA
   have HTK : Hid (l.take (k + 1) = l.take k ++ [l[k]]) := Lib.hid (List.take_succ_eq_append_getElem hlt)
   have hsx := HS.out _ (List.getElem_mem hlt)
   generalize l[k] = x at *
   have hk0 : (0 : Int) ≤ (k : Int) := Int.natCast_nonneg _
   have hk1 : (k : Int) < (l.length : Int) := by omega
   have rT : ∀ k : Nat, wr.cell? ⟨w.heap.size, k, none⟩ = t.v.cells[k]? := box_at HBW.out
   have HST := Lib.hid (rstatus_spec t T x wr (HT.out.ext_ HBW.out) HSH.out)
   rcases hsx with hsx | hsx
   all_goals
    rw [hsx] at HST
    clear hsx
    go_wp2_with fail
    refine HST.out.mono ?_
    rintro e w3 ⟨rfl, hb3⟩
    have hx4 : Ext w3 (w3.alloc (.cells #[.int .i64 x] 3)) := (Ext.refl _).alloc_ _
    obtain ⟨A5, c5, w5, hrun, hown5, hgr5, _⟩ := append_ints (Own.ext HO.out (hb3.trans' hx4)) (one_int w3 x) (by omega) (by have h' := (HB.out.trans' hb3).b.size; simp; omega)
    have HO5 : Hid (OwnI w5 w1.heap.size A5 (k + 1) c5 (l.take (k + 1))) := Lib.hid (by rw [HTK.out]; exact hown5)
    have HB5 : Hid (Ext w1 w5) := Lib.hid (ext_of_grown ((HB.out.trans' hb3).trans' hx4) hgr5 (fun k hk => (Own.lt HO.out k hk).1))
    clear hown5 hgr5 hx4 hb3 rT hcx
    go_wp2_with (at_builtin; refine wpList_run_append rfl _ _ _ rfl _ _ rfl rfl _ _ hrun ?_)
    go_roundg gk'
    case measure => omega
    case rel => exact ⟨k + 1, A5, c5, by omega, by go_num, rfl, HO5, HB5⟩
  ·have hkl : k = l.length := by omega
   subst hkl
   have HI2 : Hid (IntS wr ⟨A2, l.length, c2⟩ l) := Lib.hid (by have h := OwnI.ints HO.out; rwa [List.take_length] at h)
   have hb := HBA.out.trans' HBW.out
   have d1 : decide ((4096 : Int) < (l.length : Int)) = false := by rw [decide_eq_false_iff_not]; omega
   have d2 : decide (4096 < l.length) = false := by rw [decide_eq_false_iff_not]; omega
   clear HO
   go_wp2_with fail
   (try simp only [Exit.inBlock, Exit.then])
   refine bodyPost_ret (results_tmp3' rfl _ _ _) rfl ?_
   exact ⟨_, _, _, rfl, HI2.out, hb⟩
set_option maxHeartbeats 1600000 in
set_option maxRecDepth 100000 in
theorem rstable_ok (T : Tbl) (t : TV) (l : List Int) (A : Option Addr) (n c : Nat) (w : World) (ht : TblS w t T) (hi : IntS w ⟨A, n, c⟩ l) (hz : ordErr T l = 0) (hs : ∀ c ∈ l, staT T c = 1 ∨ staT T c = 4) :
  Calls Tryz.prog 42 #[t.v, .slice A n c] w fun e w' => e = .returned (.bool true) ∧ Ext w w' := by
 have hba := tw_ext w t
 have HT := Lib.hid (ht.ext_ hba)
 have HI := Lib.hid (hi.ext hba)
 have HM := Lib.hid (rmap_ok T t l A n c _ HT.out HI.out hz hs)
 clear ht hi hz hs
 go_enter Tryz.func42, Tryz.ntmps42
 go_wp2_with fail
 refine HM.out.mono ?_
 rintro e w1 ⟨B, m, d, rfl, hi1, hb1⟩
 have HI1 := Lib.hid hi1
 have HB1 := Lib.hid hb1
 clear hi1 hb1
 go_wp2_with fail
 refine (rsame_spec l l B m d A n c _ HI1.out (HI.out.ext HB1.out)).mono ?_
 rintro e w2 ⟨rfl, hb2⟩
 rw [(sameB_eq l l).2 rfl]
 have hb := (hba.trans' HB1.out).trans' hb2
 clear hb2
 go_wp2_with fail
 go_ret
 exact ⟨rfl, hb⟩
set_option maxHeartbeats 6400000 in
set_option maxRecDepth 100000 in
theorem vnormal_spec (l m : List Int) (A : Option Addr) (n c : Nat) (A2 : Option Addr) (n2 c2 : Nat) (w : World) (h : IntS w ⟨A, n, c⟩ l) (h2 : IntS w ⟨A2, n2, c2⟩ m) (hg : Glob w) :
  Calls Tryz.prog 12 #[.slice A n c, .slice A2 n2 c2] w fun e w' => e = .returned (.bool true) ∧ Ext w w' := by
 have HG := Lib.hid hg
 have HM := Lib.hid h2
 have HL := Lib.hid h
 clear hg h h2
 go_enter Tryz.func12, Tryz.ntmps12
 go_wp2_with fail
 refine Calls.mono (tables_spec l A n c _ HL.out HG.out) ?_
 rintro e w1 ⟨t, rfl, ht, hb1⟩
 have hx1 : Ext w1 (w1.alloc (.cells t.v.cells 26)) := (Ext.refl _).alloc_ _
 have HT := Lib.hid (ht.ext_ hx1)
 have HB01 := Lib.hid ((hb1.trans' hx1))
 clear ht hb1 hx1
 have HWF := Lib.hid (made_wf l)
 generalize madeT l = T at *
 go_wp2_with fail
 refine Calls.mono (kwords_spec m A2 n2 c2 _ (HM.out.ext HB01.out)) ?_
 rintro e w2 ⟨A5, n5, c5, rfl, hi5, hb2⟩
 have HB2 : Hid (Ext _ w2) := Lib.hid hb2
 have HI5 := Lib.hid hi5
 have hl0 := (wordL_len m).1
 generalize wordL m = La at *
 have hn5 := hi5.len.1
 subst hn5
 have rT2 : ∀ k : Nat, w2.cell? ⟨w1.heap.size, k, none⟩ = t.v.cells[k]? := box_at hb2
 clear hi5 hb2
 go_wp2_with fail
 refine (vcheck_spec T t La A5 _ c5 _ (HT.out.ext_ HB2.out) HI5.out).mono ?_
 rintro e w3 ⟨rfl, hb3⟩
 have HB3 := Lib.hid (HB2.out.trans' hb3)
 have HI3 := Lib.hid (HI5.out.ext hb3)
 have rT3 : ∀ k : Nat, w3.cell? ⟨w1.heap.size, k, none⟩ = t.v.cells[k]? := box_at HB3.out
 have HB03 := Lib.hid (HB01.out.trans' HB3.out)
 have HT3 := Lib.hid (HT.out.ext_ HB3.out)
 clear hb3 rT2 HI5
 by_cases hv : vchk T La = 0
 case neg =>
  have e1 : (vchk T La != 0) = true := by rw [bne_iff_ne]; exact hv
  have HC := Lib.hid (fun w' (hb : Ext w3 w') => rvcheck_spec T t La A5 _ c5 w' (HT3.out.ext_ hb) (HI3.out.ext hb))
  generalize vchk T La = v at *
  clear hv rT3
  go_wp2_with fail
  refine (vawake_spec w3 (HG.out.ext HB03.out)).mono ?_
  rintro e w4 ⟨rfl, hb4⟩
  have rT4 : ∀ k : Nat, w4.cell? ⟨w1.heap.size, k, none⟩ = t.v.cells[k]? := box_at (HB3.out.trans' hb4)
  go_wp2_with fail
  refine (HC.out _ hb4).mono ?_
  rintro e w5 ⟨rfl, hb5⟩
  have hb := HB03.out.trans' (hb4.trans' hb5)
  clear rT4
  go_wp2_with fail
  go_ret
  exact ⟨rfl, hb⟩
 have HP := Lib.hid (vchk_zero hv)
 rw [hv]
 clear hv
 have hnf : nfdErr T La = 0 ∧ sameB (nfcRes T La) La = true := by
  have h := HP.out.2.1
  rw [isNfc, Bool.and_eq_true, beq_iff_eq] at h
  exact h
 have HNF := Lib.hid hnf
 clear hnf
 go_wp2_with fail
 refine (rnfc_spec T t La A5 _ c5 _ HT3.out HI3.out).mono ?_
 rintro e w4 ⟨B, m4, d4, rfl, hb4, hi4⟩
 rw [HNF.out.1]
 have HB4 := Lib.hid (HB3.out.trans' hb4)
 have HI4 := Lib.hid hi4
 have HI4' := Lib.hid (HI3.out.ext hb4)
 have HB04 := Lib.hid (HB01.out.trans' HB4.out)
 have HT4 := Lib.hid (HT.out.ext_ HB4.out)
 have HRT : Hid (∀ w', Ext w4 w' → ∀ k : Nat, w'.cell? ⟨w1.heap.size, k, none⟩ = t.v.cells[k]?) := Lib.hid (fun w' h => box_at (HB4.out.trans' h))
 clear hb4 hi4 rT3
 obtain ⟨b, o, hA, hcx⟩ := HI4'.out.at_ (i := 0) (by omega)
 subst hA
 rw [Nat.add_zero] at hcx
 have HX0 : Hid (La.getD 0 0 = La[0]) := Lib.hid (getD_lt La 0 0 (by omega))
 have hct : (catT T La[0] != 2) = true := by rw [bne_iff_ne, ← HX0.out]; exact HP.out.2.2.1
 have hi1 : (0 : Int) < (La.length : Int) := by omega
 clear HX0
 generalize La[0] = x0 at *
 have HAW : Hid (∀ w', Ext w4 w' → Calls Tryz.prog 37 #[] w' fun e w'' => e = .returned (.bool true) ∧ Ext w' w'') := Lib.hid (fun w' h => vawake_spec w' (HG.out.ext (HB04.out.trans' h)))
 have HSA : Hid (∀ w', Ext w4 w' → Calls Tryz.prog 20 #[.slice B m4 d4, .slice (some ⟨b, o, none⟩) La.length c5] w' fun e w'' => e = .returned (.bool true) ∧ Ext w' w'') := Lib.hid (fun w' h => by
  have h' := same_spec (nfcRes T La) La B m4 d4 (some ⟨b, o, none⟩) _ c5 w' (HI4.out.ext h) (HI4'.out.ext h)
  rw [HNF.out.2] at h'
  exact h')
 have HSB : Hid (∀ w', Ext w4 w' → Calls Tryz.prog 42 #[t.v, .slice (some ⟨b, o, none⟩) La.length c5] w' fun e w'' => e = .returned (.bool true) ∧ Ext w' w'') := Lib.hid (fun w' h => rstable_ok T t La _ _ c5 w' (HT4.out.ext_ h) (HI4'.out.ext h) HP.out.1 HP.out.2.2.2)
 have HCT : Hid (∀ w', Ext w4 w' → Calls Tryz.prog 43 #[t.v, .int .i64 x0] w' fun e w'' => e = .returned (.int .i64 (catT T x0)) ∧ Ext w' w'') := Lib.hid (fun w' h => rcategory_spec t T x0 w' (HT4.out.ext_ h) (shOk_cat (wf_shape HWF.out)))
 generalize catT T x0 = q at *
 have rT0 : ∀ yy : ExtW w4, ∀ k : Nat, yy.w.cell? ⟨w1.heap.size, k, none⟩ = t.v.cells[k]? := fun yy => HRT.out _ yy.h
 have rX0 : ∀ yy : ExtW w4, yy.w.cell? ⟨b, o, none⟩ = some (.int .i64 x0) := ext_cell hcx
 go_wp2_with fail
 refine region_ext (by kernel_rfl) (by kernel_rfl) ?_
 repeat (go_big_quiet_step (first
  | (go_at_call 37; with_reducible exact quiet_ext (HAW.out _ (ExtW.h _)))
  | (go_at_call 20; with_reducible exact quiet_ext (HSA.out _ (ExtW.h _)))
  | (go_at_call 42; with_reducible exact quiet_ext (HSB.out _ (ExtW.h _)))
  | (go_at_call 43; with_reducible exact quiet_ext (HCT.out _ (ExtW.h _)))))
 refine wpQuiet_nil ?_
 rintro _ ⟨x, rfl⟩
 have hb := HB04.out.trans' x.h
 clear rT0 rX0 hcx
 go_wp2_with fail
 go_ret
 exact ⟨rfl, hb⟩
end Go.Proofs.YtbdabjhankgcmaaGreatDoor
