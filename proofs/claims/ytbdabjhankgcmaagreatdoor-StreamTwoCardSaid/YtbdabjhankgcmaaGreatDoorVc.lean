/- Walk of the reference: rule 2. (The cases by program: ref_gen.py.) -/
import Derived.Test.YtbdabjhankgcmaaGreatDoorGj
namespace Go.Proofs.YtbdabjhankgcmaaGreatDoor
open Go.RowKit
def shapeS : List (List Sp) → Bool
 | [] => true
 | c :: r => rangeOk 0 1114111 c && outAll c && shapeS r
theorem shapeS_eq (T : Tbl) : shapeC (cols T) = shapeS (spansL T) := rfl
theorem name_bd {c : Int} (h : nameB c = true) : 45 ≤ c ∧ c ≤ 122 := by
 simp only [nameB, Bool.or_eq_true, Bool.and_eq_true, decide_eq_true_eq] at h
 omega
theorem name_no {c : Int} (h : c < 45 ∨ 122 < c) : nameB c = false := by
 cases hn : nameB c
 ·rfl
 ·have := name_bd hn; omega
def rowV (b3 : Bool) (last c : Int) : Bool := pointB last c || (b3 && decide (last < c) && nameB c)
theorem rowV_eq (b3 : Bool) (last c : Int) : rowV b3 last c = (decide (last < c) && ((decide (c ≤ 1114111) && !resB c) || (b3 && nameB c))) := by
 unfold rowV pointB
 cases decide (last < c) <;> cases decide (c ≤ 1114111) <;> cases resB c <;> cases b3 <;> cases nameB c <;> rfl
theorem shapeL_row (i last : Int) (m : Mp) (r : List Mp) : shapeL i last (m :: r) = (rowV (i == 3) last m.lo && shapeL i m.lo r) := by
 rw [shapeL, rowV, show decide (i = 3) = (i == 3) from by by_cases h : i = 3 <;> simp [h]]
set_option maxHeartbeats 6400000 in
set_option maxRecDepth 100000 in
theorem rplaced_spec (t : TV) (T : Tbl) (w : World) (ht : TblS w t T) :
  Calls Tryz.prog 92 #[t.v] w fun e w' => e = .returned (.bool (shapeB T)) ∧ Ext w w' := by
 have HB : Hid (shapeB T = (shapeS (spansL T) && (shapeM 0 (maps T) && shapeE (-1) T.exc))) := Lib.hid (by rw [shapeB, shapeS_eq, Bool.and_assoc])
 have HXS := Lib.hid ht.exc
 have hl7 : (spansL T).length = 7 := rfl
 have hl4 : (maps T).length = 4 := rfl
 have hba := tw_ext w t
 go_enter Tryz.func92, Tryz.ntmps92
 go_wp2_with fail
 refine (rspans_spec t T _ (ht.ext_ hba)).mono ?_
 rintro e w1 ⟨b1, b2, rfl, hsp, _, hb1⟩
 have hb01 := hba.trans' hb1
 generalize spansL T = cl at *
 have HL7 := Lib.hid hl7
 have HT := Lib.hid ht
 have HSP := Lib.hid hsp
 clear hl7 ht hsp
 go_wp2_with fail
 go_loopw [23] (fun i wr => ∃ (k : Nat), k ≤ 7 ∧ i = .int .i64 k ∧ Hid (shapeB T = (shapeS (cl.drop k) && (shapeM 0 (maps T) && shapeE (-1) T.exc))) ∧ Ext w1 wr) (fun i _ => 7 - (intOf i).toNat)
 case atStart => exact ⟨0, Nat.zero_le _, rfl, HB, Ext.refl _⟩
 case round =>
  obtain ⟨k, hk, rfl, HR, hbr⟩ := hrel
  by_cases hlt : k < 7
  ·have hlt' : k < cl.length := by rw [HL7.out]; exact hlt
   obtain ⟨b, o, za, zn, zc, ha, h0, h1⟩ := (HSP.out.ext hbr).at_ hlt'
   injection ha with ha
   injection ha with hbb hoo
   subst hbb hoo
   have HD : Hid (cl.drop k = cl[k] :: cl.drop (k + 1)) := drop_at cl k hlt'
   generalize cl[k] = xl at *
   simp only [Nat.zero_add] at h0 h1
   obtain ⟨hzn, _, _⟩ := h1.len
   subst hzn
   have H1 := Lib.hid h1
   have HS := hid_trans HR (show _ = (rangeOk 0 1114111 xl && (outAll xl && (shapeS (cl.drop (k + 1)) && (shapeM 0 (maps T) && shapeE (-1) T.exc)))) from by rw [HD.out, shapeS, Bool.and_assoc, Bool.and_assoc])
   clear h1 HR HD HB
   obtain ⟨wo, rfl⟩ : ∃ wo : World, wo = wr := ⟨_, rfl⟩
   go_wp2_with fail
   refine (rcheck1_spec za _ zc xl 0 1114111 _ H1.out).mono ?_
   rintro e w2 ⟨rfl, hb2⟩
   have hbr2 := hbr.trans' hb2
   cases hrk : rangeOk 0 1114111 xl
   ·have HF : Hid (shapeB T = false) := Lib.hid (by rw [HS.out, hrk]; rfl)
    clear HS hrk
    go_wp2_with fail
    go_ret
    exact ⟨ret_bool HF.out.symm, hb01.trans' hbr2⟩
   ·have HR2 := hid_trans HS (show _ = (outAll xl && (shapeS (cl.drop (k + 1)) && (shapeM 0 (maps T) && shapeE (-1) T.exc))) from by rw [hrk]; rfl)
    clear HS hrk h0
    go_wp2_with fail
    go_loopw [32] (fun i wi => ∃ (j : Nat), j ≤ xl.length ∧ i = .int .i64 j ∧ Hid (shapeB T = (outAll (xl.drop j) && (shapeS (cl.drop (k + 1)) && (shapeM 0 (maps T) && shapeE (-1) T.exc)))) ∧ Ext w2 wi) (fun i _ => xl.length - (intOf i).toNat)
    case atStart => exact ⟨0, Nat.zero_le _, rfl, HR2, Ext.refl _⟩
    case round =>
     obtain ⟨j, hj, rfl, HI, hbi⟩ := hrel
     by_cases hltj : j < xl.length
     ·obtain ⟨bb, oo, ha, g0, g1, g2⟩ := ((H1.out.ext hb2).ext hbi).at_ hltj
      subst ha
      have HJ : Hid (xl.drop j = xl[j] :: xl.drop (j + 1)) := drop_at xl j hltj
      generalize xl[j] = y at *
      obtain ⟨yl, yh, yv⟩ := y
      simp only at g0 g1 g2
      have HS := hid_trans HI (show _ = (outsideB ⟨yl, yh, yv⟩ && (outAll (xl.drop (j + 1)) && (shapeS (cl.drop (k + 1)) && (shapeM 0 (maps T) && shapeE (-1) T.exc)))) from by rw [HJ.out, outAll, Bool.and_assoc])
      clear HI HJ HR2
      go_wp2_with fail
      refine (rclean_spec yl yh yv _).mono ?_
      rintro e w3 ⟨rfl, hb3⟩
      have hbi3 : Ext w2 w3 := (hbi.alloc_ _).trans' hb3
      cases ho : outsideB ⟨yl, yh, yv⟩
      ·have HF : Hid (shapeB T = false) := Lib.hid (by rw [HS.out, ho]; rfl)
       clear ho HS
       go_wp2_with fail
       go_ret
       exact ⟨ret_bool HF.out.symm, hb01.trans' (hbr2.trans' hbi3)⟩
      ·have HF := hid_trans HS (show _ = (outAll (xl.drop (j + 1)) && (shapeS (cl.drop (k + 1)) && (shapeM 0 (maps T) && shapeE (-1) T.exc))) from by rw [ho]; rfl)
       clear ho HS
       go_wp2_with fail
       go_roundw
       case rel => exact ⟨j + 1, by omega, by go_num, HF, hbi3⟩
       case measure => simp [intOf]; omega
     ·have HF := hid_trans HI (show _ = (shapeS (cl.drop (k + 1)) && (shapeM 0 (maps T) && shapeE (-1) T.exc)) from by rw [drop_all xl j (by omega)]; rfl)
      clear HI HR2
      go_wp2_with fail
      go_roundw
      case rel => exact ⟨k + 1, by omega, by go_num, HF, hbr2.trans' hbi⟩
      case measure => simp [intOf]; omega
  ·have HR2 : Hid (shapeB T = (shapeM ((0 : Nat) : Int) (maps T) && shapeE (-1) T.exc)) := hid_trans HR (show _ = _ from by rw [drop_all cl k (by rw [HL7.out]; omega)]; rfl)
   have hbx := box_at (hb1.trans' hbr)
   have hb0r := hb01.trans' hbr
   clear HR HB
   go_wp2_with fail
   refine (rmappings_spec t T _ (HT.out.ext_ hb0r)).mono ?_
   rintro e w2 ⟨b3, rfl, hmap, hb2⟩
   have hb02 := hb0r.trans' hb2
   have HTX : Hid (Ext (w.alloc (.cells #[.slice t.s0.a t.s0.n t.s0.c, .slice t.s1.a t.s1.n t.s1.c, .slice t.s2.a t.s2.n t.s2.c, .slice t.s3.a t.s3.n t.s3.c, .slice t.s4.a t.s4.n t.s4.c, .slice t.s5.a t.s5.n t.s5.c, .slice t.s6.a t.s6.n t.s6.c, .slice t.s7.a t.s7.n t.s7.c, .slice t.s8.a t.s8.n t.s8.c, .slice t.s9.a t.s9.n t.s9.c, .slice t.s10.a t.s10.n t.s10.c, .slice t.s11.a t.s11.n t.s11.c] 26)) w2) := Lib.hid ((hb1.trans' hbr).trans' hb2)
   have HMAP := Lib.hid hmap
   generalize maps T = ml at *
   have HL4 := Lib.hid hl4
   clear hl4 hmap hbx
   go_wp2_with fail
   go_loopw [45] (fun i wx => ∃ (k : Nat), k ≤ 4 ∧ i = .int .i64 k ∧ Hid (shapeB T = (shapeM (k : Int) (ml.drop k) && shapeE (-1) T.exc)) ∧ Ext w2 wx) (fun i _ => 4 - (intOf i).toNat)
   case atStart => exact ⟨0, Nat.zero_le _, rfl, HR2, Ext.refl _⟩
   case round =>
    obtain ⟨k2, hk2, rfl, HRR, hbrr⟩ := hrel
    by_cases hlt2 : k2 < 4
    ·have hlt' : k2 < ml.length := by rw [HL4.out]; exact hlt2
     obtain ⟨b, o, za, zn, zc, ha, h0, h1⟩ := (HMAP.out.ext hbrr).at_ hlt'
     injection ha with ha
     injection ha with hbb hoo
     subst hbb hoo
     have HD : Hid (ml.drop k2 = ml[k2] :: ml.drop (k2 + 1)) := drop_at ml k2 hlt'
     generalize ml[k2] = x at *
     simp only [Nat.zero_add] at h0
     obtain ⟨hzn, _, _⟩ := h1.len
     subst hzn
     have H1 := Lib.hid h1
     have HR3 := hid_trans HRR (show _ = (shapeL k2 (-1) x && (shapeM ((k2 + 1 : Nat) : Int) (ml.drop (k2 + 1)) && shapeE (-1) T.exc)) from by rw [HD.out]; simp [shapeM, Bool.and_assoc])
     obtain ⟨b3v, hb3v⟩ : ∃ b3v, ((k2 : Int) == 3) = b3v := ⟨_, rfl⟩
     have hk3 : (k2 == 3) = b3v := by
      rw [← hb3v]
      by_cases h : k2 = 3
      ·subst h; rfl
      ·rw [beq_eq_false_iff_ne.2 h, beq_eq_false_iff_ne.2 (show (k2 : Int) ≠ 3 from by omega)]
     have HB3 := Lib.hid hb3v
     clear HRR HD h1 HR2
     obtain ⟨wo, rfl⟩ : ∃ wo : World, wo = wr := ⟨_, rfl⟩
     go_wp2_with fail
     go_loopw [52] (fun i wi => ∃ (j : Nat) (last : Int), j ≤ x.length ∧ i = .int .i64 j ∧ Hid (shapeB T = (shapeL k2 last (x.drop j) && (shapeM ((k2 + 1 : Nat) : Int) (ml.drop (k2 + 1)) && shapeE (-1) T.exc))) ∧ -1 ≤ last ∧ (j = 0 → last = -1) ∧ Hid (∀ (hj : j - 1 < x.length), 0 < j → x[j - 1].lo = last) ∧ Ext wo wi) (fun i _ => x.length - (intOf i).toNat)
     case atStart => exact ⟨0, -1, Nat.zero_le _, rfl, HR3, by omega, fun _ => rfl, Lib.hid (fun _ h => by omega), Ext.refl _⟩
     case round =>
      obtain ⟨j, last, hj, rfl, HI, hla, hla0, HLA, hbi⟩ := hrel
      have HBI := Lib.hid hbi
      by_cases hltj : j < x.length
      ·obtain ⟨bb, oo, ya, yn, yc, ha, g0, g1, g2⟩ := (H1.out.ext hbi).at_ hltj
       subst ha
       have HJ : Hid (x.drop j = x[j] :: x.drop (j + 1)) := drop_at x j hltj
       have HX : Hid (∀ hk : j + 1 - 1 < x.length, 0 < j + 1 → x[j + 1 - 1].lo = (x[j]'hltj).lo) := Lib.hid (fun _ _ => by simp)
       have HPREV : Hid (∀ i, j = i + 1 → wr.cell? ⟨bb, oo + i * 2, none⟩ = some (.int .i64 last)) := Lib.hid (fun i hj => by
        obtain ⟨b', o', _, _, _, hbo, h1, _⟩ := (H1.out.ext HBI.out).at_ (i := i) (by omega)
        injection hbo with hbo
        injection hbo with e1 e2
        subst e1 e2
        have h3 := HLA.out (by omega) (by omega)
        subst hj
        simp only [Nat.add_sub_cancel] at h3
        rw [h1, h3])
       generalize x[j] = y at *
       obtain ⟨yl, yt⟩ := y
       simp only at g0 g1
       clear g2
       have HS := hid_trans HI (show _ = (rowV b3v last yl && (shapeL k2 yl (x.drop (j + 1)) && (shapeM ((k2 + 1 : Nat) : Int) (ml.drop (k2 + 1)) && shapeE (-1) T.exc))) from by rw [HJ.out, shapeL_row, HB3.out, Bool.and_assoc])
       obtain ⟨wm, rfl⟩ : ∃ wm : World, wm = wr := ⟨_, rfl⟩
       have hx1 : Ext wm (wm.alloc (.cells #[.int .i64 yl, .slice ya yn yc] 74)) := (Ext.refl _).alloc_ _
       have rS : ∀ yy : ExtW (wm.alloc (.cells #[.int .i64 yl, .slice ya yn yc] 74)), ∀ q : Nat, yy.w.cell? ⟨wm.heap.size, q, none⟩ = (#[.int .i64 yl, .slice ya yn yc] : Array Value)[q]? := fun yy => box_at yy.h
       have hk0 : (0 : Int) ≤ (j : Int) := Int.natCast_nonneg _
       have hk1 : (j : Int) < (x.length : Int) := by omega
       clear HI HJ HLA HR3 h0
       by_cases c1 : yl < 0
       ·have HF : Hid (shapeB T = false) := Lib.hid (by rw [HS.out, rowV_eq]; rw [decide_eq_false (p := last < yl) (by omega)]; rfl)
        have dc1 : decide (yl < 0) = true := by rw [decide_eq_true_eq]; exact c1
        clear HS
        go_wp2_with fail
        refine region_ext (by kernel_rfl) (by kernel_rfl) ?_
        repeat (go_big_quiet_step (fail))
        refine wpQuiet_nil ?_
        rintro _ ⟨xw, rfl⟩
        have hbx := (HBI.out.trans' hx1).trans' xw.h
        clear rS
        go_wp2_with fail
        go_ret
        exact ⟨ret_bool HF.out.symm, hb02.trans' (hbrr.trans' hbx)⟩
       by_cases c2 : 1114111 < yl
       ·have HF : Hid (shapeB T = false) := Lib.hid (by rw [HS.out, rowV_eq]; rw [decide_eq_false (p := yl ≤ 1114111) (by omega), name_no (.inr (by omega))]; cases b3v <;> cases decide (last < yl) <;> rfl)
        have dc1 : decide (yl < 0) = false := by rw [decide_eq_false_iff_not]; exact c1
        have dc2 : decide (1114111 < yl) = true := by rw [decide_eq_true_eq]; exact c2
        clear HS
        go_wp2_with fail
        refine region_ext (by kernel_rfl) (by kernel_rfl) ?_
        repeat (go_big_quiet_step (fail))
        refine wpQuiet_nil ?_
        rintro _ ⟨xw, rfl⟩
        have hbx := (HBI.out.trans' hx1).trans' xw.h
        clear rS
        go_wp2_with fail
        go_ret
        exact ⟨ret_bool HF.out.symm, hb02.trans' (hbrr.trans' hbx)⟩
       rcases Nat.eq_zero_or_pos j with hz | hpos
       ·obtain rfl := hla0 hz
        have dk : decide (0 < j) = false := by rw [decide_eq_false_iff_not]; omega
        clear hz hla0
        have HRS : Hid (∀ w' : World, Calls Tryz.prog 140 #[.int .i64 yl] w' fun e w'' => e = .returned (.bool (resB yl)) ∧ w' = w'') := Lib.hid (fun w' => rreserved_spec yl w')
        have HNM : Hid (∀ w' : World, Calls Tryz.prog 132 #[.int .i64 yl] w' fun e w'' => e = .returned (.bool (nameB yl)) ∧ w' = w'') := Lib.hid (fun w' => rlatin_spec yl w')
        cases hr : resB yl
        ·have HF : Hid (shapeB T = (shapeL k2 yl (x.drop (j + 1)) && (shapeM ((k2 + 1 : Nat) : Int) (ml.drop (k2 + 1)) && shapeE (-1) T.exc))) := Lib.hid (by rw [HS.out, rowV_eq]; rw [decide_eq_true (p := (-1) < yl) (by omega), decide_eq_true (p := yl ≤ 1114111) (by omega), hr]; rfl)
         have dc1 : decide (yl < 0) = false := by rw [decide_eq_false_iff_not]; exact c1
         have dc2 : decide (1114111 < yl) = false := by rw [decide_eq_false_iff_not]; exact c2
         rw [hr] at HRS
         clear hr
         clear HS
         go_wp2_with fail
         refine region_ext (by kernel_rfl) (by kernel_rfl) ?_
         repeat (go_big_quiet_step ((go_at_call 140; with_reducible exact quiet_same (HRS.out _))))
         refine wpQuiet_nil ?_
         rintro _ ⟨xw, rfl⟩
         have hbx := (HBI.out.trans' hx1).trans' xw.h
         clear rS
         go_wp2_with fail
         go_roundw
         case rel => exact ⟨j + 1, yl, by omega, by go_num, HF, by omega, fun h => by omega, HX, hbx⟩
         case measure => simp [intOf]; omega
        ·cases b3v
         ·have HF : Hid (shapeB T = false) := Lib.hid (by rw [HS.out, rowV_eq]; rw [decide_eq_true (p := (-1) < yl) (by omega), decide_eq_true (p := yl ≤ 1114111) (by omega), hr]; rfl)
          have dc1 : decide (yl < 0) = false := by rw [decide_eq_false_iff_not]; exact c1
          have dc2 : decide (1114111 < yl) = false := by rw [decide_eq_false_iff_not]; exact c2
          rw [hr] at HRS
          clear hr
          clear HS
          go_wp2_with fail
          refine region_ext (by kernel_rfl) (by kernel_rfl) ?_
          repeat (go_big_quiet_step ((go_at_call 140; with_reducible exact quiet_same (HRS.out _))))
          refine wpQuiet_nil ?_
          rintro _ ⟨xw, rfl⟩
          have hbx := (HBI.out.trans' hx1).trans' xw.h
          clear rS
          go_wp2_with fail
          go_ret
          exact ⟨ret_bool HF.out.symm, hb02.trans' (hbrr.trans' hbx)⟩
         ·cases hn : nameB yl
          ·have HF : Hid (shapeB T = false) := Lib.hid (by rw [HS.out, rowV_eq]; rw [decide_eq_true (p := (-1) < yl) (by omega), decide_eq_true (p := yl ≤ 1114111) (by omega), hr]; rw [hn]; rfl)
           have dc1 : decide (yl < 0) = false := by rw [decide_eq_false_iff_not]; exact c1
           have dc2 : decide (1114111 < yl) = false := by rw [decide_eq_false_iff_not]; exact c2
           rw [hr] at HRS
           rw [hn] at HNM
           clear hr hn
           clear HS
           go_wp2_with fail
           refine region_ext (by kernel_rfl) (by kernel_rfl) ?_
           repeat (go_big_quiet_step (first | (go_at_call 140; with_reducible exact quiet_same (HRS.out _)) | (go_at_call 132; with_reducible exact quiet_same (HNM.out _))))
           refine wpQuiet_nil ?_
           rintro _ ⟨xw, rfl⟩
           have hbx := (HBI.out.trans' hx1).trans' xw.h
           clear rS
           go_wp2_with fail
           go_ret
           exact ⟨ret_bool HF.out.symm, hb02.trans' (hbrr.trans' hbx)⟩
          ·have HF : Hid (shapeB T = (shapeL k2 yl (x.drop (j + 1)) && (shapeM ((k2 + 1 : Nat) : Int) (ml.drop (k2 + 1)) && shapeE (-1) T.exc))) := Lib.hid (by rw [HS.out, rowV_eq]; rw [decide_eq_true (p := (-1) < yl) (by omega), decide_eq_true (p := yl ≤ 1114111) (by omega), hr]; rw [hn]; rfl)
           have dc1 : decide (yl < 0) = false := by rw [decide_eq_false_iff_not]; exact c1
           have dc2 : decide (1114111 < yl) = false := by rw [decide_eq_false_iff_not]; exact c2
           rw [hr] at HRS
           rw [hn] at HNM
           clear hr hn
           clear HS
           go_wp2_with fail
           refine region_ext (by kernel_rfl) (by kernel_rfl) ?_
           repeat (go_big_quiet_step (first | (go_at_call 140; with_reducible exact quiet_same (HRS.out _)) | (go_at_call 132; with_reducible exact quiet_same (HNM.out _))))
           refine wpQuiet_nil ?_
           rintro _ ⟨xw, rfl⟩
           have hbx := (HBI.out.trans' hx1).trans' xw.h
           clear rS
           go_wp2_with fail
           go_roundw
           case rel => exact ⟨j + 1, yl, by omega, by go_num, HF, by omega, fun h => by omega, HX, hbx⟩
           case measure => simp [intOf]; omega
       ·obtain ⟨i, hi⟩ : ∃ i, j = i + 1 := ⟨j - 1, by omega⟩
        have hp := HPREV.out i hi
        have rP : ∀ yy : ExtW (wm.alloc (.cells #[.int .i64 yl, .slice ya yn yc] 74)), yy.w.cell? ⟨bb, oo + i * 2, none⟩ = some (.int .i64 last) := ext_cell (keep_cell (ext_keep hx1) hp)
        have dk : decide (0 < j) = true := by rw [decide_eq_true_eq]; omega
        have hsub : (j : Int) - 1 = (i : Int) := by omega
        have hj0 : (0 : Int) ≤ (i : Int) := Int.natCast_nonneg _
        have hj1 : (i : Int) < (x.length : Int) := by omega
        clear hi hp hla0
        by_cases c3 : yl ≤ last
        ·have HF : Hid (shapeB T = false) := Lib.hid (by rw [HS.out, rowV_eq]; rw [decide_eq_false (p := last < yl) (by omega)]; rfl)
         have dc1 : decide (yl < 0) = false := by rw [decide_eq_false_iff_not]; exact c1
         have dc2 : decide (1114111 < yl) = false := by rw [decide_eq_false_iff_not]; exact c2
         have dc3 : decide (yl ≤ last) = true := by rw [decide_eq_true_eq]; exact c3
         clear HS
         go_wp2_with fail
         refine region_ext (by kernel_rfl) (by kernel_rfl) ?_
         repeat (go_big_quiet_step (fail))
         refine wpQuiet_nil ?_
         rintro _ ⟨xw, rfl⟩
         have hbx := (HBI.out.trans' hx1).trans' xw.h
         clear rS
         go_wp2_with fail
         go_ret
         exact ⟨ret_bool HF.out.symm, hb02.trans' (hbrr.trans' hbx)⟩
        have HRS : Hid (∀ w' : World, Calls Tryz.prog 140 #[.int .i64 yl] w' fun e w'' => e = .returned (.bool (resB yl)) ∧ w' = w'') := Lib.hid (fun w' => rreserved_spec yl w')
        have HNM : Hid (∀ w' : World, Calls Tryz.prog 132 #[.int .i64 yl] w' fun e w'' => e = .returned (.bool (nameB yl)) ∧ w' = w'') := Lib.hid (fun w' => rlatin_spec yl w')
        cases hr : resB yl
        ·have HF : Hid (shapeB T = (shapeL k2 yl (x.drop (j + 1)) && (shapeM ((k2 + 1 : Nat) : Int) (ml.drop (k2 + 1)) && shapeE (-1) T.exc))) := Lib.hid (by rw [HS.out, rowV_eq]; rw [decide_eq_true (p := last < yl) (by omega), decide_eq_true (p := yl ≤ 1114111) (by omega), hr]; rfl)
         have dc1 : decide (yl < 0) = false := by rw [decide_eq_false_iff_not]; exact c1
         have dc2 : decide (1114111 < yl) = false := by rw [decide_eq_false_iff_not]; exact c2
         have dc3 : decide (yl ≤ last) = false := by rw [decide_eq_false_iff_not]; exact c3
         rw [hr] at HRS
         clear hr
         clear HS
         go_wp2_with fail
         refine region_ext (by kernel_rfl) (by kernel_rfl) ?_
         repeat (go_big_quiet_step ((go_at_call 140; with_reducible exact quiet_same (HRS.out _))))
         refine wpQuiet_nil ?_
         rintro _ ⟨xw, rfl⟩
         have hbx := (HBI.out.trans' hx1).trans' xw.h
         clear rS
         go_wp2_with fail
         go_roundw
         case rel => exact ⟨j + 1, yl, by omega, by go_num, HF, by omega, fun h => by omega, HX, hbx⟩
         case measure => simp [intOf]; omega
        ·cases b3v
         ·have HF : Hid (shapeB T = false) := Lib.hid (by rw [HS.out, rowV_eq]; rw [decide_eq_true (p := last < yl) (by omega), decide_eq_true (p := yl ≤ 1114111) (by omega), hr]; rfl)
          have dc1 : decide (yl < 0) = false := by rw [decide_eq_false_iff_not]; exact c1
          have dc2 : decide (1114111 < yl) = false := by rw [decide_eq_false_iff_not]; exact c2
          have dc3 : decide (yl ≤ last) = false := by rw [decide_eq_false_iff_not]; exact c3
          rw [hr] at HRS
          clear hr
          clear HS
          go_wp2_with fail
          refine region_ext (by kernel_rfl) (by kernel_rfl) ?_
          repeat (go_big_quiet_step ((go_at_call 140; with_reducible exact quiet_same (HRS.out _))))
          refine wpQuiet_nil ?_
          rintro _ ⟨xw, rfl⟩
          have hbx := (HBI.out.trans' hx1).trans' xw.h
          clear rS
          go_wp2_with fail
          go_ret
          exact ⟨ret_bool HF.out.symm, hb02.trans' (hbrr.trans' hbx)⟩
         ·cases hn : nameB yl
          ·have HF : Hid (shapeB T = false) := Lib.hid (by rw [HS.out, rowV_eq]; rw [decide_eq_true (p := last < yl) (by omega), decide_eq_true (p := yl ≤ 1114111) (by omega), hr]; rw [hn]; rfl)
           have dc1 : decide (yl < 0) = false := by rw [decide_eq_false_iff_not]; exact c1
           have dc2 : decide (1114111 < yl) = false := by rw [decide_eq_false_iff_not]; exact c2
           have dc3 : decide (yl ≤ last) = false := by rw [decide_eq_false_iff_not]; exact c3
           rw [hr] at HRS
           rw [hn] at HNM
           clear hr hn
           clear HS
           go_wp2_with fail
           refine region_ext (by kernel_rfl) (by kernel_rfl) ?_
           repeat (go_big_quiet_step (first | (go_at_call 140; with_reducible exact quiet_same (HRS.out _)) | (go_at_call 132; with_reducible exact quiet_same (HNM.out _))))
           refine wpQuiet_nil ?_
           rintro _ ⟨xw, rfl⟩
           have hbx := (HBI.out.trans' hx1).trans' xw.h
           clear rS
           go_wp2_with fail
           go_ret
           exact ⟨ret_bool HF.out.symm, hb02.trans' (hbrr.trans' hbx)⟩
          ·have HF : Hid (shapeB T = (shapeL k2 yl (x.drop (j + 1)) && (shapeM ((k2 + 1 : Nat) : Int) (ml.drop (k2 + 1)) && shapeE (-1) T.exc))) := Lib.hid (by rw [HS.out, rowV_eq]; rw [decide_eq_true (p := last < yl) (by omega), decide_eq_true (p := yl ≤ 1114111) (by omega), hr]; rw [hn]; rfl)
           have dc1 : decide (yl < 0) = false := by rw [decide_eq_false_iff_not]; exact c1
           have dc2 : decide (1114111 < yl) = false := by rw [decide_eq_false_iff_not]; exact c2
           have dc3 : decide (yl ≤ last) = false := by rw [decide_eq_false_iff_not]; exact c3
           rw [hr] at HRS
           rw [hn] at HNM
           clear hr hn
           clear HS
           go_wp2_with fail
           refine region_ext (by kernel_rfl) (by kernel_rfl) ?_
           repeat (go_big_quiet_step (first | (go_at_call 140; with_reducible exact quiet_same (HRS.out _)) | (go_at_call 132; with_reducible exact quiet_same (HNM.out _))))
           refine wpQuiet_nil ?_
           rintro _ ⟨xw, rfl⟩
           have hbx := (HBI.out.trans' hx1).trans' xw.h
           clear rS
           go_wp2_with fail
           go_roundw
           case rel => exact ⟨j + 1, yl, by omega, by go_num, HF, by omega, fun h => by omega, HX, hbx⟩
           case measure => simp [intOf]; omega
      ·have HF := hid_trans HI (show _ = (shapeM ((k2 + 1 : Nat) : Int) (ml.drop (k2 + 1)) && shapeE (-1) T.exc) from by rw [drop_all x j (by omega)]; simp [shapeL])
       clear HI HR3 h0
       go_wp2_with fail
       go_roundw
       case rel => exact ⟨k2 + 1, by omega, by go_num, HF, hbrr.trans' HBI.out⟩
       case measure => simp [intOf]; omega
    ·have HR3 : Hid (shapeB T = shapeE (-1) T.exc) := Lib.hid (by rw [HRR.out, drop_all ml k2 (by rw [HL4.out]; omega)]; simp [shapeM])
     have hbx := tv_box (HTX.out.trans' hbrr)
     have hb0x := hb02.trans' hbrr
     have hxs3 := HXS.out.ext hb0x
     clear HRR HR2
     change IntS wr ⟨t.s10.a, t.s10.n, t.s10.c⟩ T.exc at hxs3
     generalize T.exc = xe at *
     obtain ⟨hzn, _, _⟩ := hxs3.len
     have HXE := Lib.hid hxs3
     clear HXS hxs3
     generalize t.s10.a = xa at *
     generalize t.s10.n = xn at *
     generalize t.s10.c = xc at *
     subst hzn
     obtain ⟨wo, rfl⟩ : ∃ wo : World, wo = wr := ⟨_, rfl⟩
     go_wp2_with fail
     go_loopw [100] (fun i wi => ∃ (j : Nat) (last : Int), j ≤ xe.length ∧ i = .int .i64 j ∧ Hid (shapeB T = shapeE last (xe.drop j)) ∧ -1 ≤ last ∧ (j = 0 → last = -1) ∧ Hid (∀ (hj : j - 1 < xe.length), 0 < j → xe[j - 1] = last) ∧ wo = wi) (fun i _ => xe.length - (intOf i).toNat)
     case atStart => exact ⟨0, -1, Nat.zero_le _, rfl, HR3, by omega, fun _ => rfl, Lib.hid (fun _ h => by omega), rfl⟩
     case round =>
      obtain ⟨j, last, hj, rfl, HI, hla, hla0, HLA, rfl⟩ := hrel
      by_cases hltj : j < xe.length
      ·obtain ⟨bb, oo, ha, g0⟩ := HXE.out.at_ hltj
       subst ha
       have HJ : Hid (xe.drop j = xe[j] :: xe.drop (j + 1)) := drop_at xe j hltj
       have HX : Hid (∀ hk : j + 1 - 1 < xe.length, 0 < j + 1 → xe[j + 1 - 1] = (xe[j]'hltj)) := Lib.hid (fun _ _ => by simp)
       have HPREV : Hid (∀ i, j = i + 1 → wo.cell? ⟨bb, oo + i, none⟩ = some (.int .i64 last)) := Lib.hid (fun i hj => by
        obtain ⟨b', o', hbo, h1⟩ := HXE.out.at_ (i := i) (by omega)
        injection hbo with hbo
        injection hbo with e1 e2
        subst e1 e2
        have h3 := HLA.out (by omega) (by omega)
        subst hj
        simp only [Nat.add_sub_cancel] at h3
        rw [h1, h3])
       generalize xe[j] = y at *
       have HS := hid_trans HI (show _ = (decide (last < y) && decide (y ≤ 1114111) && !resB y && shapeE y (xe.drop (j + 1))) from by rw [HJ.out]; rfl)
       have hk0 : (0 : Int) ≤ (j : Int) := Int.natCast_nonneg _
       have hk1 : (j : Int) < (xe.length : Int) := by omega
       clear HI HJ HLA HR3
       by_cases c1 : y < 0
       ·have HF : Hid (shapeB T = false) := Lib.hid (by rw [HS.out]; rw [decide_eq_false (p := last < y) (by omega)]; rfl)
        have dc1 : decide (y < 0) = true := by rw [decide_eq_true_eq]; exact c1
        clear HS
        go_wp2_with fail
        go_ret
        exact ⟨ret_bool HF.out.symm, hb0x⟩
       by_cases c2 : 1114111 < y
       ·have HF : Hid (shapeB T = false) := Lib.hid (by rw [HS.out]; rw [decide_eq_false (p := y ≤ 1114111) (by omega)]; cases decide (last < y) <;> rfl)
        have dc1 : decide (y < 0) = false := by rw [decide_eq_false_iff_not]; exact c1
        have dc2 : decide (1114111 < y) = true := by rw [decide_eq_true_eq]; exact c2
        clear HS
        go_wp2_with fail
        go_ret
        exact ⟨ret_bool HF.out.symm, hb0x⟩
       rcases Nat.eq_zero_or_pos j with hz | hpos
       ·obtain rfl := hla0 hz
        have dk : decide (0 < j) = false := by rw [decide_eq_false_iff_not]; omega
        clear hz hla0
        cases hr : resB y
        ·have HF : Hid (shapeB T = shapeE y (xe.drop (j + 1))) := Lib.hid (by rw [HS.out]; rw [decide_eq_true (p := (-1) < y) (by omega), decide_eq_true (p := y ≤ 1114111) (by omega), hr]; rfl)
         have dc1 : decide (y < 0) = false := by rw [decide_eq_false_iff_not]; exact c1
         have dc2 : decide (1114111 < y) = false := by rw [decide_eq_false_iff_not]; exact c2
         have HRV := Lib.hid hr
         clear hr
         clear HS
         go_wp2_with (go_at_call 140; refine (rreserved_spec y _).mono ?_; rintro e w4 ⟨rfl, rfl⟩; rw [HRV.out])
         go_roundw
         case rel => exact ⟨j + 1, y, by omega, by go_num, HF, by omega, fun h => by omega, HX, by trivial⟩
         case measure => simp [intOf]; omega
        ·have HF : Hid (shapeB T = false) := Lib.hid (by rw [HS.out]; rw [decide_eq_true (p := (-1) < y) (by omega), decide_eq_true (p := y ≤ 1114111) (by omega), hr]; rfl)
         have dc1 : decide (y < 0) = false := by rw [decide_eq_false_iff_not]; exact c1
         have dc2 : decide (1114111 < y) = false := by rw [decide_eq_false_iff_not]; exact c2
         have HRV := Lib.hid hr
         clear hr
         clear HS
         go_wp2_with (go_at_call 140; refine (rreserved_spec y _).mono ?_; rintro e w4 ⟨rfl, rfl⟩; rw [HRV.out])
         go_ret
         exact ⟨ret_bool HF.out.symm, hb0x⟩
       ·obtain ⟨i, hi⟩ : ∃ i, j = i + 1 := ⟨j - 1, by omega⟩
        have hp := HPREV.out i hi
        have dk : decide (0 < j) = true := by rw [decide_eq_true_eq]; omega
        have hsub : (j : Int) - 1 = (i : Int) := by omega
        have hj0 : (0 : Int) ≤ (i : Int) := Int.natCast_nonneg _
        have hj1 : (i : Int) < (xe.length : Int) := by omega
        clear hi hla0
        by_cases c3 : y ≤ last
        ·have HF : Hid (shapeB T = false) := Lib.hid (by rw [HS.out]; rw [decide_eq_false (p := last < y) (by omega)]; rfl)
         have dc1 : decide (y < 0) = false := by rw [decide_eq_false_iff_not]; exact c1
         have dc2 : decide (1114111 < y) = false := by rw [decide_eq_false_iff_not]; exact c2
         have dc3 : decide (y ≤ last) = true := by rw [decide_eq_true_eq]; exact c3
         clear HS
         go_wp2_with fail
         go_ret
         exact ⟨ret_bool HF.out.symm, hb0x⟩
        cases hr : resB y
        ·have HF : Hid (shapeB T = shapeE y (xe.drop (j + 1))) := Lib.hid (by rw [HS.out]; rw [decide_eq_true (p := last < y) (by omega), decide_eq_true (p := y ≤ 1114111) (by omega), hr]; rfl)
         have dc1 : decide (y < 0) = false := by rw [decide_eq_false_iff_not]; exact c1
         have dc2 : decide (1114111 < y) = false := by rw [decide_eq_false_iff_not]; exact c2
         have dc3 : decide (y ≤ last) = false := by rw [decide_eq_false_iff_not]; exact c3
         have HRV := Lib.hid hr
         clear hr
         clear HS
         go_wp2_with (go_at_call 140; refine (rreserved_spec y _).mono ?_; rintro e w4 ⟨rfl, rfl⟩; rw [HRV.out])
         go_roundw
         case rel => exact ⟨j + 1, y, by omega, by go_num, HF, by omega, fun h => by omega, HX, by trivial⟩
         case measure => simp [intOf]; omega
        ·have HF : Hid (shapeB T = false) := Lib.hid (by rw [HS.out]; rw [decide_eq_true (p := last < y) (by omega), decide_eq_true (p := y ≤ 1114111) (by omega), hr]; rfl)
         have dc1 : decide (y < 0) = false := by rw [decide_eq_false_iff_not]; exact c1
         have dc2 : decide (1114111 < y) = false := by rw [decide_eq_false_iff_not]; exact c2
         have dc3 : decide (y ≤ last) = false := by rw [decide_eq_false_iff_not]; exact c3
         have HRV := Lib.hid hr
         clear hr
         clear HS
         go_wp2_with (go_at_call 140; refine (rreserved_spec y _).mono ?_; rintro e w4 ⟨rfl, rfl⟩; rw [HRV.out])
         go_ret
         exact ⟨ret_bool HF.out.symm, hb0x⟩
      ·have HF := hid_trans HI (show _ = true from by rw [drop_all xe j (by omega)]; rfl)
       clear HI HR3
       go_wp2_with fail
       go_ret
       exact ⟨ret_bool HF.out.symm, hb0x⟩
end Go.Proofs.YtbdabjhankgcmaaGreatDoor
