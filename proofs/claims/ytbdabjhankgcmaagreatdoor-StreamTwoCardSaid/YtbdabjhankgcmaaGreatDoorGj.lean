/- Walks of the reference: rules 1 and 2. (The cases by program: ref_gen.py.). Walk of the reference: rule 3. (The cases by program: ref_gen.py.). Walk of the reference: rule 4. (The cases by program: ref_gen.py.). -/
import Derived.Test.YtbdabjhankgcmaaGreatDoorVa
namespace Go.Proofs.YtbdabjhankgcmaaGreatDoor
open Go.RowKit
set_option maxHeartbeats 3200000 in
set_option maxRecDepth 100000 in
theorem rcheck1_spec (A : Option Addr) (n c : Nat) (l : List Sp) (lo hi : Int) (w : World) (h : SpanS w ⟨A, n, c⟩ l) :
  Calls Tryz.prog 138 #[.slice A n c, .int .i64 lo, .int .i64 hi] w fun e w' => e = .returned (.bool (rangeOk lo hi l)) ∧ Ext w w' := by
 obtain ⟨hn, _, _⟩ := h.len
 subst hn
 have HI := Lib.hid h
 clear h
 by_cases hlen : 256 < l.length
 ·have HF : Hid (rangeOk lo hi l = false) := Lib.hid (by unfold rangeOk; rw [decide_eq_false (p := (l.length : Int) ≤ 256) (by omega)]; simp)
  go_enter Tryz.func138, Tryz.ntmps138
  go_wp2_with fail
  go_ret
  exact ⟨ret_bool HF.out.symm, Ext.refl _⟩
 have HB : Hid (rangeOk lo hi l = chain lo hi (-1) (l.drop 0)) := Lib.hid (by unfold rangeOk; rw [decide_eq_true (p := (l.length : Int) ≤ 256) (by omega)]; simp)
 have d256 : decide (256 < l.length) = false := by rw [decide_eq_false_iff_not]; exact hlen
 go_enter Tryz.func138, Tryz.ntmps138
 go_wp2_with fail
 go_loopw [14] (fun i wr => ∃ (k : Nat) (last : Int), k ≤ l.length ∧ i = .int .i64 k ∧ Hid (rangeOk lo hi l = chain lo hi last (l.drop k)) ∧ -1 ≤ last ∧ (k = 0 → last = -1) ∧ Hid (∀ (hk : k - 1 < l.length), 0 < k → l[k - 1].hi = last) ∧ Ext w wr) (fun i _ => l.length - (intOf i).toNat)
 case atStart => exact ⟨0, -1, Nat.zero_le _, rfl, HB, by omega, fun _ => rfl, Lib.hid (fun _ h => by omega), Ext.refl _⟩
 case round =>
  obtain ⟨k, last, hk, rfl, HR, hla, hla0, HLA, hbr⟩ := hrel
  have HBR := Lib.hid hbr
  by_cases hlt : k < l.length
  ·obtain ⟨b, o, ha, h0, h1, h2⟩ := (HI.out.ext hbr).at_ hlt
   subst ha
   have HD : Hid (l.drop k = l[k] :: l.drop (k + 1)) := drop_at l k hlt
   have HX : Hid (∀ hk : k + 1 - 1 < l.length, 0 < k + 1 → l[k + 1 - 1].hi = (l[k]'hlt).hi) := Lib.hid (fun _ _ => by simp)
   have HPREV : Hid (∀ j, k = j + 1 → wr.cell? ⟨b, o + j * 3 + 1, none⟩ = some (.int .i64 last)) := Lib.hid (fun j hj => by
    obtain ⟨b', o', hbo, _, h2, _⟩ := (HI.out.ext HBR.out).at_ (i := j) (by omega)
    injection hbo with hbo
    injection hbo with e1 e2
    subst e1 e2
    have h3 := HLA.out (by omega) (by omega)
    subst hj
    simp only [Nat.add_sub_cancel] at h3
    rw [h2, h3])
   generalize l[k] = x at *
   obtain ⟨xl, xh, xv⟩ := x
   simp only at h0 h1 h2
   have HS := hid_trans HR (show _ = (!(decide (xl ≤ last) || decide (xh < xl) || decide (1114111 < xh) || decide (xl < lo) || decide (hi < xh)) && chain lo hi xh (l.drop (k + 1))) from by rw [HD.out]; rfl)
   obtain ⟨wo, rfl⟩ : ∃ wo : World, wo = wr := ⟨_, rfl⟩
   have hx1 : Ext wo (wo.alloc (.cells #[.int .i64 xl, .int .i64 xh, .int .i64 xv] 54)) := (Ext.refl _).alloc_ _
   have rS : ∀ yy : ExtW (wo.alloc (.cells #[.int .i64 xl, .int .i64 xh, .int .i64 xv] 54)), ∀ q : Nat, yy.w.cell? ⟨wo.heap.size, q, none⟩ = (#[.int .i64 xl, .int .i64 xh, .int .i64 xv] : Array Value)[q]? := fun yy => box_at yy.h
   have hk0 : (0 : Int) ≤ (k : Int) := Int.natCast_nonneg _
   have hk1 : (k : Int) < (l.length : Int) := by omega
   clear HR HD HLA HB
   by_cases c1 : xl < 0
   ·have HF : Hid (rangeOk lo hi l = false) := Lib.hid (by
     rw [HS.out]
     have : (decide (xl ≤ last) || decide (xh < xl) || decide (1114111 < xh) || decide (xl < lo) || decide (hi < xh)) = true := by
      simp only [Bool.or_eq_true, decide_eq_true_eq]
      omega
     rw [this]; rfl)
    have dc1 : decide (xl < 0) = true := by rw [decide_eq_true_eq]; exact c1
    clear HS
    go_wp2_with fail
    refine region_ext (by kernel_rfl) (by kernel_rfl) ?_
    repeat (go_big_quiet_step (fail))
    refine wpQuiet_nil ?_
    rintro _ ⟨xw, rfl⟩
    have hbx := (HBR.out.trans' hx1).trans' xw.h
    clear rS
    go_wp2_with fail
    go_ret
    exact ⟨ret_bool HF.out.symm, hbx⟩
   by_cases c2 : xh < xl
   ·have HF : Hid (rangeOk lo hi l = false) := Lib.hid (by
     rw [HS.out]
     have : (decide (xl ≤ last) || decide (xh < xl) || decide (1114111 < xh) || decide (xl < lo) || decide (hi < xh)) = true := by
      simp only [Bool.or_eq_true, decide_eq_true_eq]
      omega
     rw [this]; rfl)
    have dc1 : decide (xl < 0) = false := by rw [decide_eq_false_iff_not]; exact c1
    have dc2 : decide (xh < xl) = true := by rw [decide_eq_true_eq]; exact c2
    clear HS
    go_wp2_with fail
    refine region_ext (by kernel_rfl) (by kernel_rfl) ?_
    repeat (go_big_quiet_step (fail))
    refine wpQuiet_nil ?_
    rintro _ ⟨xw, rfl⟩
    have hbx := (HBR.out.trans' hx1).trans' xw.h
    clear rS
    go_wp2_with fail
    go_ret
    exact ⟨ret_bool HF.out.symm, hbx⟩
   by_cases c3 : 1114111 < xh
   ·have HF : Hid (rangeOk lo hi l = false) := Lib.hid (by
     rw [HS.out]
     have : (decide (xl ≤ last) || decide (xh < xl) || decide (1114111 < xh) || decide (xl < lo) || decide (hi < xh)) = true := by
      simp only [Bool.or_eq_true, decide_eq_true_eq]
      omega
     rw [this]; rfl)
    have dc1 : decide (xl < 0) = false := by rw [decide_eq_false_iff_not]; exact c1
    have dc2 : decide (xh < xl) = false := by rw [decide_eq_false_iff_not]; exact c2
    have dc3 : decide (1114111 < xh) = true := by rw [decide_eq_true_eq]; exact c3
    clear HS
    go_wp2_with fail
    refine region_ext (by kernel_rfl) (by kernel_rfl) ?_
    repeat (go_big_quiet_step (fail))
    refine wpQuiet_nil ?_
    rintro _ ⟨xw, rfl⟩
    have hbx := (HBR.out.trans' hx1).trans' xw.h
    clear rS
    go_wp2_with fail
    go_ret
    exact ⟨ret_bool HF.out.symm, hbx⟩
   by_cases c4 : xl < lo
   ·have HF : Hid (rangeOk lo hi l = false) := Lib.hid (by
     rw [HS.out]
     have : (decide (xl ≤ last) || decide (xh < xl) || decide (1114111 < xh) || decide (xl < lo) || decide (hi < xh)) = true := by
      simp only [Bool.or_eq_true, decide_eq_true_eq]
      omega
     rw [this]; rfl)
    have dc1 : decide (xl < 0) = false := by rw [decide_eq_false_iff_not]; exact c1
    have dc2 : decide (xh < xl) = false := by rw [decide_eq_false_iff_not]; exact c2
    have dc3 : decide (1114111 < xh) = false := by rw [decide_eq_false_iff_not]; exact c3
    have dc4 : decide (xl < lo) = true := by rw [decide_eq_true_eq]; exact c4
    clear HS
    go_wp2_with fail
    refine region_ext (by kernel_rfl) (by kernel_rfl) ?_
    repeat (go_big_quiet_step (fail))
    refine wpQuiet_nil ?_
    rintro _ ⟨xw, rfl⟩
    have hbx := (HBR.out.trans' hx1).trans' xw.h
    clear rS
    go_wp2_with fail
    go_ret
    exact ⟨ret_bool HF.out.symm, hbx⟩
   by_cases c5 : hi < xh
   ·have HF : Hid (rangeOk lo hi l = false) := Lib.hid (by
     rw [HS.out]
     have : (decide (xl ≤ last) || decide (xh < xl) || decide (1114111 < xh) || decide (xl < lo) || decide (hi < xh)) = true := by
      simp only [Bool.or_eq_true, decide_eq_true_eq]
      omega
     rw [this]; rfl)
    have dc1 : decide (xl < 0) = false := by rw [decide_eq_false_iff_not]; exact c1
    have dc2 : decide (xh < xl) = false := by rw [decide_eq_false_iff_not]; exact c2
    have dc3 : decide (1114111 < xh) = false := by rw [decide_eq_false_iff_not]; exact c3
    have dc4 : decide (xl < lo) = false := by rw [decide_eq_false_iff_not]; exact c4
    have dc5 : decide (hi < xh) = true := by rw [decide_eq_true_eq]; exact c5
    clear HS
    go_wp2_with fail
    refine region_ext (by kernel_rfl) (by kernel_rfl) ?_
    repeat (go_big_quiet_step (fail))
    refine wpQuiet_nil ?_
    rintro _ ⟨xw, rfl⟩
    have hbx := (HBR.out.trans' hx1).trans' xw.h
    clear rS
    go_wp2_with fail
    go_ret
    exact ⟨ret_bool HF.out.symm, hbx⟩
   rcases Nat.eq_zero_or_pos k with hz | hpos
   ·obtain rfl := hla0 hz
    have dk : decide (0 < k) = false := by rw [decide_eq_false_iff_not]; omega
    clear hz hla0
    have HF : Hid (rangeOk lo hi l = chain lo hi xh (l.drop (k + 1))) := Lib.hid (by
     rw [HS.out]
     have : (decide (xl ≤ (-1)) || decide (xh < xl) || decide (1114111 < xh) || decide (xl < lo) || decide (hi < xh)) = false := by
      simp only [Bool.or_eq_false_iff, decide_eq_false_iff_not]
      omega
     rw [this]; rfl)
    have dc1 : decide (xl < 0) = false := by rw [decide_eq_false_iff_not]; exact c1
    have dc2 : decide (xh < xl) = false := by rw [decide_eq_false_iff_not]; exact c2
    have dc3 : decide (1114111 < xh) = false := by rw [decide_eq_false_iff_not]; exact c3
    have dc4 : decide (xl < lo) = false := by rw [decide_eq_false_iff_not]; exact c4
    have dc5 : decide (hi < xh) = false := by rw [decide_eq_false_iff_not]; exact c5
    clear HS
    go_wp2_with fail
    refine region_ext (by kernel_rfl) (by kernel_rfl) ?_
    repeat (go_big_quiet_step (fail))
    refine wpQuiet_nil ?_
    rintro _ ⟨xw, rfl⟩
    have hbx := (HBR.out.trans' hx1).trans' xw.h
    clear rS
    go_wp2_with fail
    go_roundw
    case rel => exact ⟨k + 1, xh, by omega, by go_num, HF, by omega, fun h => by omega, HX, hbx⟩
    case measure => simp [intOf]; omega
   ·obtain ⟨j, hj⟩ : ∃ j, k = j + 1 := ⟨k - 1, by omega⟩
    have hp := HPREV.out j hj
    have rP : ∀ yy : ExtW (wo.alloc (.cells #[.int .i64 xl, .int .i64 xh, .int .i64 xv] 54)), yy.w.cell? ⟨b, o + j * 3 + 1, none⟩ = some (.int .i64 last) := ext_cell (keep_cell (ext_keep hx1) hp)
    have dk : decide (0 < k) = true := by rw [decide_eq_true_eq]; omega
    have hsub : (k : Int) - 1 = (j : Int) := by omega
    have hj0 : (0 : Int) ≤ (j : Int) := Int.natCast_nonneg _
    have hj1 : (j : Int) < (l.length : Int) := by omega
    clear hj hp hla0
    by_cases c6 : xl ≤ last
    ·have HF : Hid (rangeOk lo hi l = false) := Lib.hid (by
      rw [HS.out]
      have : (decide (xl ≤ last) || decide (xh < xl) || decide (1114111 < xh) || decide (xl < lo) || decide (hi < xh)) = true := by
       simp only [Bool.or_eq_true, decide_eq_true_eq]
       omega
      rw [this]; rfl)
     have dc1 : decide (xl < 0) = false := by rw [decide_eq_false_iff_not]; exact c1
     have dc2 : decide (xh < xl) = false := by rw [decide_eq_false_iff_not]; exact c2
     have dc3 : decide (1114111 < xh) = false := by rw [decide_eq_false_iff_not]; exact c3
     have dc4 : decide (xl < lo) = false := by rw [decide_eq_false_iff_not]; exact c4
     have dc5 : decide (hi < xh) = false := by rw [decide_eq_false_iff_not]; exact c5
     have dc6 : decide (xl ≤ last) = true := by rw [decide_eq_true_eq]; exact c6
     clear HS
     go_wp2_with fail
     refine region_ext (by kernel_rfl) (by kernel_rfl) ?_
     repeat (go_big_quiet_step (fail))
     refine wpQuiet_nil ?_
     rintro _ ⟨xw, rfl⟩
     have hbx := (HBR.out.trans' hx1).trans' xw.h
     clear rS
     go_wp2_with fail
     go_ret
     exact ⟨ret_bool HF.out.symm, hbx⟩
    ·have HF : Hid (rangeOk lo hi l = chain lo hi xh (l.drop (k + 1))) := Lib.hid (by
      rw [HS.out]
      have : (decide (xl ≤ last) || decide (xh < xl) || decide (1114111 < xh) || decide (xl < lo) || decide (hi < xh)) = false := by
       simp only [Bool.or_eq_false_iff, decide_eq_false_iff_not]
       omega
      rw [this]; rfl)
     have dc1 : decide (xl < 0) = false := by rw [decide_eq_false_iff_not]; exact c1
     have dc2 : decide (xh < xl) = false := by rw [decide_eq_false_iff_not]; exact c2
     have dc3 : decide (1114111 < xh) = false := by rw [decide_eq_false_iff_not]; exact c3
     have dc4 : decide (xl < lo) = false := by rw [decide_eq_false_iff_not]; exact c4
     have dc5 : decide (hi < xh) = false := by rw [decide_eq_false_iff_not]; exact c5
     have dc6 : decide (xl ≤ last) = false := by rw [decide_eq_false_iff_not]; exact c6
     clear HS
     go_wp2_with fail
     refine region_ext (by kernel_rfl) (by kernel_rfl) ?_
     repeat (go_big_quiet_step (fail))
     refine wpQuiet_nil ?_
     rintro _ ⟨xw, rfl⟩
     have hbx := (HBR.out.trans' hx1).trans' xw.h
     clear rS
     go_wp2_with fail
     go_roundw
     case rel => exact ⟨k + 1, xh, by omega, by go_num, HF, by omega, fun h => by omega, HX, hbx⟩
     case measure => simp [intOf]; omega
  ·have HF := hid_trans HR (show _ = true from by rw [drop_all l k (by omega)]; rfl)
   clear HR HB
   go_wp2_with fail
   go_ret
   exact ⟨ret_bool HF.out.symm, HBR.out⟩
def rowsS : List (List Sp) → Bool
 | [] => true
 | c :: r => decide ((c.length : Int) ≤ 256) && rowsS r
theorem rowsS_eq (T : Tbl) : rowsC (cols T) = rowsS (spansL T) := rfl
set_option maxHeartbeats 800000 in
set_option maxRecDepth 100000 in
theorem rsmall_spec (t : TV) (T : Tbl) (w : World) (ht : TblS w t T) :
  Calls Tryz.prog 91 #[t.v] w fun e w' => e = .returned (.bool (rowsB T)) ∧ Ext w w' := by
 have HB : Hid (rowsB T = (rowsS (spansL T) && (rowsM (maps T) && decide ((T.exc.length : Int) ≤ 256)))) := Lib.hid (by rw [rowsB, rowsS_eq, Bool.and_assoc, Bool.and_comm, Bool.and_assoc])
 obtain ⟨hxn, _, _⟩ := ht.exc.len
 have hl7 : (spansL T).length = 7 := rfl
 have hl4 : (maps T).length = 4 := rfl
 have HX := Lib.hid hxn
 clear hxn
 have hba := tw_ext w t
 go_enter Tryz.func91, Tryz.ntmps91
 go_wp2_with fail
 refine (rspans_spec t T _ (ht.ext_ hba)).mono ?_
 rintro e w1 ⟨b1, b2, rfl, hsp, _, hb1⟩
 have hb01 := hba.trans' hb1
 generalize spansL T = cl at *
 have HL7 := Lib.hid hl7
 clear hl7
 go_wp2_with fail
 go_loopw [17] (fun i wr => ∃ (k : Nat), k ≤ 7 ∧ i = .int .i64 k ∧ Hid (rowsB T = (rowsS (cl.drop k) && (rowsM (maps T) && decide ((T.exc.length : Int) ≤ 256)))) ∧ Ext w1 wr) (fun i _ => 7 - (intOf i).toNat)
 case atStart => exact ⟨0, Nat.zero_le _, rfl, HB, Ext.refl _⟩
 case round =>
  obtain ⟨k, hk, rfl, HR, hbr⟩ := hrel
  have hbx := box_at (hb1.trans' hbr)
  by_cases hlt : k < 7
  ·have hlt' : k < cl.length := by rw [HL7.out]; exact hlt
   obtain ⟨b, o, za, zn, zc, ha, h0, h1⟩ := (hsp.ext hbr).at_ hlt'
   injection ha with ha
   injection ha with hbb hoo
   subst hbb hoo
   have HD : Hid (cl.drop k = cl[k] :: cl.drop (k + 1)) := drop_at cl k hlt'
   generalize cl[k] = x at *
   simp only [Nat.zero_add] at h0 h1
   obtain ⟨hzn, _, _⟩ := h1.len
   subst hzn
   have HS := hid_trans HR (show _ = (decide ((x.length : Int) ≤ 256) && (rowsS (cl.drop (k + 1)) && (rowsM (maps T) && decide ((T.exc.length : Int) ≤ 256)))) from by rw [HD.out, rowsS, Bool.and_assoc])
   clear h1 HR HD HB hbx
   by_cases hx : 256 < x.length
   ·have HF : Hid (rowsB T = false) := Lib.hid (by rw [HS.out, decide_eq_false (p := (x.length : Int) ≤ 256) (by omega)]; rfl)
    clear HS
    go_wp2_with fail
    go_ret
    exact ⟨ret_bool HF.out.symm, hb01.trans' hbr⟩
   ·have HF := hid_trans HS (show _ = (rowsS (cl.drop (k + 1)) && (rowsM (maps T) && decide ((T.exc.length : Int) ≤ 256))) from by rw [decide_eq_true (p := (x.length : Int) ≤ 256) (by omega)]; rfl)
    clear HS
    go_wp2_with fail
    go_roundw
    case rel => exact ⟨k + 1, by omega, by go_num, HF, hbr⟩
    case measure => simp [intOf]; omega
  ·have HR2 := hid_trans HR (show _ = (rowsM (maps T) && decide ((T.exc.length : Int) ≤ 256)) from by rw [drop_all cl k (by rw [HL7.out]; omega)]; rfl)
   clear HR HB
   have hb0r := hb01.trans' hbr
   go_wp2_with fail
   refine (rmappings_spec t T _ (ht.ext_ hb0r)).mono ?_
   rintro e w2 ⟨b3, rfl, hmap, hb2⟩
   have hb02 := hb0r.trans' hb2
   generalize maps T = ml at *
   have HL4 := Lib.hid hl4
   clear hl4 hbx
   go_wp2_with fail
   go_loopw [29] (fun i wr => ∃ (k : Nat), k ≤ 4 ∧ i = .int .i64 k ∧ Hid (rowsB T = (rowsM (ml.drop k) && decide ((T.exc.length : Int) ≤ 256))) ∧ Ext w2 wr) (fun i _ => 4 - (intOf i).toNat)
   case atStart => exact ⟨0, Nat.zero_le _, rfl, HR2, Ext.refl _⟩
   case round =>
    obtain ⟨k2, hk2, rfl, HRR, hbrr⟩ := hrel
    have hbx := box_at ((hb1.trans' hbr).trans' (hb2.trans' hbrr))
    by_cases hlt2 : k2 < 4
    ·have hlt' : k2 < ml.length := by rw [HL4.out]; exact hlt2
     obtain ⟨b, o, za, zn, zc, ha, h0, h1⟩ := (hmap.ext hbrr).at_ hlt'
     injection ha with ha
     injection ha with hbb hoo
     subst hbb hoo
     have HD : Hid (ml.drop k2 = ml[k2] :: ml.drop (k2 + 1)) := drop_at ml k2 hlt'
     generalize ml[k2] = x at *
     simp only [Nat.zero_add] at h0
     obtain ⟨hzn, _, _⟩ := h1.len
     subst hzn
     have HS := hid_trans HRR (show _ = (decide ((x.length : Int) ≤ 256) && (rowsM (ml.drop (k2 + 1)) && decide ((T.exc.length : Int) ≤ 256))) from by rw [HD.out, rowsM, Bool.and_assoc])
     clear h1 HRR HD HR2 hbx
     by_cases hx : 256 < x.length
     ·have HF : Hid (rowsB T = false) := Lib.hid (by rw [HS.out, decide_eq_false (p := (x.length : Int) ≤ 256) (by omega)]; rfl)
      clear HS
      go_wp2_with fail
      go_ret
      exact ⟨ret_bool HF.out.symm, hb02.trans' hbrr⟩
     ·have HF := hid_trans HS (show _ = (rowsM (ml.drop (k2 + 1)) && decide ((T.exc.length : Int) ≤ 256)) from by rw [decide_eq_true (p := (x.length : Int) ≤ 256) (by omega)]; rfl)
      clear HS
      go_wp2_with fail
      go_roundw
      case rel => exact ⟨k2 + 1, by omega, by go_num, HF, hbrr⟩
      case measure => simp [intOf]; omega
    ·have HR3 := hid_trans HRR (show _ = decide ((T.exc.length : Int) ≤ 256) from by rw [drop_all ml k2 (by rw [HL4.out]; omega)]; rfl)
     have HR4 : Hid (rowsB T = decide ((t.s10.n : Int) ≤ 256)) := Lib.hid (by rw [HR3.out, HX.out])
     clear HRR HR2 HR3
     by_cases hx : t.s10.n ≤ 256
     ·have HF : Hid (rowsB T = true) := Lib.hid (by rw [HR4.out, decide_eq_true_eq]; omega)
      have d1 : decide ((t.s10.n : Int) ≤ 256) = true := by rw [decide_eq_true_eq]; omega
      have d2 : decide (t.s10.n ≤ 256) = true := by rw [decide_eq_true_eq]; omega
      clear hx HR4
      go_wp2_with fail
      go_ret
      exact ⟨ret_bool HF.out.symm, hb02.trans' hbrr⟩
     ·have HF : Hid (rowsB T = false) := Lib.hid (by rw [HR4.out, decide_eq_false_iff_not]; omega)
      have d1 : decide ((t.s10.n : Int) ≤ 256) = false := by rw [decide_eq_false_iff_not]; omega
      have d2 : decide (t.s10.n ≤ 256) = false := by rw [decide_eq_false_iff_not]; omega
      clear hx HR4
      go_wp2_with fail
      go_ret
      exact ⟨ret_bool HF.out.symm, hb02.trans' hbrr⟩
end Go.Proofs.YtbdabjhankgcmaaGreatDoor
namespace Go.Proofs.YtbdabjhankgcmaaGreatDoor
open Go.RowKit
theorem cols_at (T : Tbl) : ∀ k, k < 7 → ∃ xl x1 x2, (cols T).drop k = (xl, x1, x2) :: (cols T).drop (k + 1) ∧ (spansL T)[k]? = some xl ∧ mostL[k]? = some x2 ∧ x1 = if k = 1 ∨ k = 6 then 1 else 0
 | 0, _ | 1, _ | 2, _ | 3, _ | 4, _ | 5, _ | 6, _ => ⟨_, _, _, rfl, rfl, rfl, rfl⟩
set_option maxHeartbeats 3200000 in
set_option maxRecDepth 100000 in
theorem rranged_spec (t : TV) (T : Tbl) (w : World) (ht : TblS w t T) :
  Calls Tryz.prog 93 #[t.v] w fun e w' => e = .returned (.bool (valuesB T)) ∧ Ext w w' := by
 have HB : Hid (valuesB T = valuesC ((cols T).drop 0)) := rfl
 have HCA : Hid (∀ k, k < 7 → ∃ xl x1 x2, (cols T).drop k = (xl, x1, x2) :: (cols T).drop (k + 1) ∧ (spansL T)[k]? = some xl ∧ mostL[k]? = some x2 ∧ x1 = if k = 1 ∨ k = 6 then 1 else 0) := Lib.hid (cols_at T)
 have hl7 : (spansL T).length = 7 := rfl
 have hm7 : mostL.length = 7 := rfl
 have HN : Hid (∀ k, 7 ≤ k → valuesC ((cols T).drop k) = true) := Lib.hid (fun k hk => by rw [drop_all (cols T) k hk]; rfl)
 have hba := tw_ext w t
 go_enter Tryz.func93, Tryz.ntmps93
 go_wp2_with fail
 refine (rspans_spec t T _ (ht.ext_ hba)).mono ?_
 rintro e w1 ⟨b1, b2, rfl, hsp, hmo, hb1⟩
 have hb01 := hba.trans' hb1
 generalize cols T = cl at *
 generalize spansL T = sl at *
 generalize mostL = ml at *
 have HL7 := Lib.hid hl7
 have HM7 := Lib.hid hm7
 have HSP := Lib.hid hsp
 have HMO := Lib.hid hmo
 clear hl7 hm7 hsp hmo
 go_wp2_with fail
 go_loopw [16] (fun i wr => ∃ (k : Nat), k ≤ 7 ∧ i = .int .i64 k ∧ Hid (valuesB T = valuesC (cl.drop k)) ∧ Ext w1 wr) (fun i _ => 7 - (intOf i).toNat)
 case atStart => exact ⟨0, Nat.zero_le _, rfl, HB, Ext.refl _⟩
 case round =>
  obtain ⟨k, hk, rfl, HR, hbr⟩ := hrel
  by_cases hlt : k < 7
  ·obtain ⟨xl, x1, x2, hd, hx1, hx2, hx3⟩ := HCA.out k hlt
   obtain ⟨b, o, za, zn, zc, ha, h0, h1⟩ := (HSP.out.ext hbr).2 k xl hx1
   injection ha with ha
   injection ha with hbb hoo
   subst hbb hoo
   obtain ⟨b', o', ha, h2⟩ := (HMO.out.ext hbr).2 k x2 hx2
   injection ha with ha
   injection ha with hbb hoo
   subst hbb hoo
   simp only [Nat.zero_add] at h0 h1 h2
   obtain ⟨hzn, _, _⟩ := h1.len
   subst hzn
   have H1 := Lib.hid h1
   have HX3 := Lib.hid hx3
   have H2 := Lib.hid h2
   have HR2 := hid_trans HR (show _ = (valuesL x1 x2 xl && valuesC (cl.drop (k + 1))) from by rw [hd]; rfl)
   clear h1 hd hx1 hx2 hx3 HR h2
   have hk0 : (0 : Int) ≤ (k : Int) := Int.natCast_nonneg _
   have hk1 : (k : Int) < 7 := by omega
   obtain ⟨wo, rfl⟩ : ∃ wo : World, wo = wr := ⟨_, rfl⟩
   go_wp2_with fail
   clear h0
   go_loopw [23] (fun i wi => ∃ (j : Nat), j ≤ xl.length ∧ i = .int .i64 j ∧ Hid (valuesB T = (valuesL x1 x2 (xl.drop j) && valuesC (cl.drop (k + 1)))) ∧ Ext wo wi) (fun i _ => xl.length - (intOf i).toNat)
   case atStart => exact ⟨0, Nat.zero_le _, rfl, HR2, Ext.refl _⟩
   case round =>
    obtain ⟨j, hj, rfl, HI, hbi⟩ := hrel
    have HBI := Lib.hid hbi
    by_cases hltj : j < xl.length
    ·obtain ⟨bb, oo, ha, g0, g1, g2⟩ := (H1.out.ext hbi).at_ hltj
     subst ha
     have HJ : Hid (xl.drop j = xl[j] :: xl.drop (j + 1)) := drop_at xl j hltj
     generalize xl[j] = y at *
     obtain ⟨yl, yh, yv⟩ := y
     simp only at g0 g1 g2
     have HS := hid_trans HI (show _ = (!(decide (yv < x1) || decide (x2 < yv)) && (valuesL x1 x2 (xl.drop (j + 1)) && valuesC (cl.drop (k + 1)))) from by rw [HJ.out, valuesL, Bool.and_assoc])
     obtain ⟨wm, rfl⟩ : ∃ wm : World, wm = wr := ⟨_, rfl⟩
     have hm2 : wm.cell? ⟨b2, k, none⟩ = some (.int .i64 x2) := keep_cell (ext_keep hbi) H2.out
     have hx1 : Ext wm (wm.alloc (.cells #[.int .i64 yl, .int .i64 yh, .int .i64 yv] 54)) := (Ext.refl _).alloc_ _
     have rS : ∀ yy : ExtW (wm.alloc (.cells #[.int .i64 yl, .int .i64 yh, .int .i64 yv] 54)), ∀ q : Nat, yy.w.cell? ⟨wm.heap.size, q, none⟩ = (#[.int .i64 yl, .int .i64 yh, .int .i64 yv] : Array Value)[q]? := fun yy => box_at yy.h
     have rM : ∀ yy : ExtW (wm.alloc (.cells #[.int .i64 yl, .int .i64 yh, .int .i64 yv] 54)), yy.w.cell? ⟨b2, k, none⟩ = some (.int .i64 x2) := ext_cell (keep_cell (ext_keep hx1) hm2)
     clear HI HJ HR2 hm2
     by_cases c1 : yv < 0
     ·have HF : Hid (valuesB T = false) := Lib.hid (by
       have h3 := HX3.out
       rw [HS.out]
       have : (decide (yv < x1) || decide (x2 < yv)) = true := by
        simp only [Bool.or_eq_true, decide_eq_true_eq]
        split at h3 <;> omega
       rw [this]; rfl)
      have dc1 : decide (yv < 0) = true := by rw [decide_eq_true_eq]; exact c1
      clear HS
      go_wp2_with fail
      refine region_ext (by kernel_rfl) (by kernel_rfl) ?_
      repeat (go_big_quiet_step (fail))
      refine wpQuiet_nil ?_
      rintro _ ⟨xw, rfl⟩
      have hbx := (HBI.out.trans' hx1).trans' xw.h
      clear rS rM
      go_wp2_with fail
      go_ret
      exact ⟨ret_bool HF.out.symm, hb01.trans' (hbr.trans' hbx)⟩
     by_cases c2 : x2 < yv
     ·have HF : Hid (valuesB T = false) := Lib.hid (by
       have h3 := HX3.out
       rw [HS.out]
       have : (decide (yv < x1) || decide (x2 < yv)) = true := by
        simp only [Bool.or_eq_true, decide_eq_true_eq]
        exact .inr c2
       rw [this]; rfl)
      have dc1 : decide (yv < 0) = false := by rw [decide_eq_false_iff_not]; exact c1
      have dc2 : decide (x2 < yv) = true := by rw [decide_eq_true_eq]; exact c2
      clear HS
      go_wp2_with fail
      refine region_ext (by kernel_rfl) (by kernel_rfl) ?_
      repeat (go_big_quiet_step (fail))
      refine wpQuiet_nil ?_
      rintro _ ⟨xw, rfl⟩
      have hbx := (HBI.out.trans' hx1).trans' xw.h
      clear rS rM
      go_wp2_with fail
      go_ret
      exact ⟨ret_bool HF.out.symm, hb01.trans' (hbr.trans' hbx)⟩
     by_cases c3 : yv = 0
     ·have e3 : (yv == 0) = true := by rw [beq_iff_eq]; exact c3
      by_cases k1 : k = 1
      ·have HF : Hid (valuesB T = false) := Lib.hid (by
        have h3 := HX3.out
        rw [HS.out]
        have : (decide (yv < x1) || decide (x2 < yv)) = true := by
         simp only [Bool.or_eq_true, decide_eq_true_eq]
         rw [if_pos (.inl k1)] at h3; omega
        rw [this]; rfl)
       have dc1 : decide (yv < 0) = false := by rw [decide_eq_false_iff_not]; exact c1
       have dc2 : decide (x2 < yv) = false := by rw [decide_eq_false_iff_not]; exact c2
       have ek1 : ((k : Int) == 1) = true := by rw [beq_iff_eq]; omega
       have en1 : (k == 1) = true := by rw [beq_iff_eq]; omega
       clear k1 c3
       clear HS
       go_wp2_with fail
       refine region_ext (by kernel_rfl) (by kernel_rfl) ?_
       repeat (go_big_quiet_step (fail))
       refine wpQuiet_nil ?_
       rintro _ ⟨xw, rfl⟩
       have hbx := (HBI.out.trans' hx1).trans' xw.h
       clear rS rM
       go_wp2_with fail
       go_ret
       exact ⟨ret_bool HF.out.symm, hb01.trans' (hbr.trans' hbx)⟩
      ·by_cases k6 : k = 6
       ·have HF : Hid (valuesB T = false) := Lib.hid (by
         have h3 := HX3.out
         rw [HS.out]
         have : (decide (yv < x1) || decide (x2 < yv)) = true := by
          simp only [Bool.or_eq_true, decide_eq_true_eq]
          rw [if_pos (.inr k6)] at h3; omega
         rw [this]; rfl)
        have dc1 : decide (yv < 0) = false := by rw [decide_eq_false_iff_not]; exact c1
        have dc2 : decide (x2 < yv) = false := by rw [decide_eq_false_iff_not]; exact c2
        have ek1 : ((k : Int) == 1) = false := by rw [beq_eq_false_iff_ne]; omega
        have en1 : (k == 1) = false := by rw [beq_eq_false_iff_ne]; omega
        have ek6 : ((k : Int) == 6) = true := by rw [beq_iff_eq]; omega
        have en6 : (k == 6) = true := by rw [beq_iff_eq]; omega
        clear k1 k6 c3
        clear HS
        go_wp2_with fail
        refine region_ext (by kernel_rfl) (by kernel_rfl) ?_
        repeat (go_big_quiet_step (fail))
        refine wpQuiet_nil ?_
        rintro _ ⟨xw, rfl⟩
        have hbx := (HBI.out.trans' hx1).trans' xw.h
        clear rS rM
        go_wp2_with fail
        go_ret
        exact ⟨ret_bool HF.out.symm, hb01.trans' (hbr.trans' hbx)⟩
       ·have HF : Hid (valuesB T = (valuesL x1 x2 (xl.drop (j + 1)) && valuesC (cl.drop (k + 1)))) := Lib.hid (by
         have h3 := HX3.out
         rw [HS.out]
         have : (decide (yv < x1) || decide (x2 < yv)) = false := by
          simp only [Bool.or_eq_false_iff, decide_eq_false_iff_not]
          rw [if_neg (by omega)] at h3; omega
         rw [this]; rfl)
        have dc1 : decide (yv < 0) = false := by rw [decide_eq_false_iff_not]; exact c1
        have dc2 : decide (x2 < yv) = false := by rw [decide_eq_false_iff_not]; exact c2
        have ek1 : ((k : Int) == 1) = false := by rw [beq_eq_false_iff_ne]; omega
        have en1 : (k == 1) = false := by rw [beq_eq_false_iff_ne]; omega
        have ek6 : ((k : Int) == 6) = false := by rw [beq_eq_false_iff_ne]; omega
        have en6 : (k == 6) = false := by rw [beq_eq_false_iff_ne]; omega
        clear k1 k6 c3
        clear HS
        go_wp2_with fail
        refine region_ext (by kernel_rfl) (by kernel_rfl) ?_
        repeat (go_big_quiet_step (fail))
        refine wpQuiet_nil ?_
        rintro _ ⟨xw, rfl⟩
        have hbx := (HBI.out.trans' hx1).trans' xw.h
        clear rS rM
        go_wp2_with fail
        go_roundw
        case rel => exact ⟨j + 1, by omega, by go_num, HF, hbx⟩
        case measure => simp [intOf]; omega
     ·have e3 : (yv == 0) = false := by rw [beq_eq_false_iff_ne]; exact c3
      have HF : Hid (valuesB T = (valuesL x1 x2 (xl.drop (j + 1)) && valuesC (cl.drop (k + 1)))) := Lib.hid (by
       have h3 := HX3.out
       rw [HS.out]
       have : (decide (yv < x1) || decide (x2 < yv)) = false := by
        simp only [Bool.or_eq_false_iff, decide_eq_false_iff_not]
        split at h3 <;> omega
       rw [this]; rfl)
      have dc1 : decide (yv < 0) = false := by rw [decide_eq_false_iff_not]; exact c1
      have dc2 : decide (x2 < yv) = false := by rw [decide_eq_false_iff_not]; exact c2
      clear HS
      go_wp2_with fail
      refine region_ext (by kernel_rfl) (by kernel_rfl) ?_
      repeat (go_big_quiet_step (fail))
      refine wpQuiet_nil ?_
      rintro _ ⟨xw, rfl⟩
      have hbx := (HBI.out.trans' hx1).trans' xw.h
      clear rS rM
      go_wp2_with fail
      go_roundw
      case rel => exact ⟨j + 1, by omega, by go_num, HF, hbx⟩
      case measure => simp [intOf]; omega
    ·have HF := hid_trans HI (show _ = valuesC (cl.drop (k + 1)) from by rw [drop_all xl j (by omega)]; simp [valuesL])
     clear HI HR2
     go_wp2_with fail
     go_roundw
     case rel => exact ⟨k + 1, by omega, by go_num, HF, hbr.trans' HBI.out⟩
     case measure => simp [intOf]; omega
  ·have HF := hid_trans HR (HN.out k (by omega))
   clear HR
   go_wp2_with fail
   go_ret
   exact ⟨ret_bool HF.out.symm, hb01.trans' hbr⟩
end Go.Proofs.YtbdabjhankgcmaaGreatDoor
namespace Go.Proofs.YtbdabjhankgcmaaGreatDoor
open Go.RowKit
set_option maxHeartbeats 6400000 in
set_option maxRecDepth 100000 in
theorem rsized_spec (t : TV) (T : Tbl) (w : World) (ht : TblS w t T) :
  Calls Tryz.prog 94 #[t.v] w fun e w' => e = .returned (.bool (targetsB T)) ∧ Ext w w' := by
 have HB : Hid (targetsB T = targetsM ((0 : Nat) : Int) (maps T)) := rfl
 have hl4 : (maps T).length = 4 := rfl
 have hba := tw_ext w t
 go_enter Tryz.func94, Tryz.ntmps94
 go_wp2_with fail
 refine (rmappings_spec t T _ (ht.ext_ hba)).mono ?_
 rintro e w1 ⟨b1, rfl, hmap, hb1⟩
 have hb01 := hba.trans' hb1
 generalize maps T = ml at *
 have HL4 := Lib.hid hl4
 clear hl4
 go_wp2_with fail
 go_loopw [14] (fun i wr => ∃ (k : Nat), k ≤ 4 ∧ i = .int .i64 k ∧ Hid (targetsB T = targetsM (k : Int) (ml.drop k)) ∧ Ext w1 wr) (fun i _ => 4 - (intOf i).toNat)
 case atStart => exact ⟨0, Nat.zero_le _, rfl, HB, Ext.refl _⟩
 case round =>
  obtain ⟨k, hk, rfl, HR, hbr⟩ := hrel
  by_cases hlt : k < 4
  ·have hlt' : k < ml.length := by rw [HL4.out]; exact hlt
   obtain ⟨b, o, za, zn, zc, ha, h0, h1⟩ := (hmap.ext hbr).at_ hlt'
   injection ha with ha
   injection ha with hbb hoo
   subst hbb hoo
   have HD : Hid (ml.drop k = ml[k] :: ml.drop (k + 1)) := drop_at ml k hlt'
   generalize ml[k] = x at *
   simp only [Nat.zero_add] at h0
   obtain ⟨hzn, _, _⟩ := h1.len
   subst hzn
   have H1 := Lib.hid h1
   have HR2 := hid_trans HR (show _ = (targetsL k x && targetsM ((k + 1 : Nat) : Int) (ml.drop (k + 1))) from by rw [HD.out]; simp [targetsM])
   obtain ⟨b0, hb0⟩ : ∃ b0, ((k : Int) == 0) = b0 := ⟨_, rfl⟩
   have HB0 := Lib.hid hb0
   have hn0 : (k == 0) = b0 := by
    rw [← hb0]
    by_cases h : k = 0
    ·subst h; rfl
    ·rw [beq_eq_false_iff_ne.2 h, beq_eq_false_iff_ne.2 (show (k : Int) ≠ 0 from by omega)]
   have hp0 : decide (0 < k) = !b0 := by
    rw [← hn0]
    by_cases h : k = 0
    ·subst h; rfl
    ·rw [beq_eq_false_iff_ne.2 h, decide_eq_true (p := 0 < k) (by omega)]; rfl
   clear HR HD HB h1
   obtain ⟨wo, rfl⟩ : ∃ wo : World, wo = wr := ⟨_, rfl⟩
   go_wp2_with fail
   clear h0
   go_loopw [21] (fun i wi => ∃ (j : Nat), j ≤ x.length ∧ i = .int .i64 j ∧ Hid (targetsB T = (targetsL k (x.drop j) && targetsM ((k + 1 : Nat) : Int) (ml.drop (k + 1)))) ∧ Ext wo wi) (fun i _ => x.length - (intOf i).toNat)
   case atStart => exact ⟨0, Nat.zero_le _, rfl, HR2, Ext.refl _⟩
   case round =>
    obtain ⟨j, hj, rfl, HI, hbi⟩ := hrel
    have hb1i := hbr.trans' hbi
    by_cases hltj : j < x.length
    ·obtain ⟨bb, oo, ya, yn, yc, ha, g0, g1, g2⟩ := (H1.out.ext hbi).at_ hltj
     subst ha
     have HJ : Hid (x.drop j = x[j] :: x.drop (j + 1)) := drop_at x j hltj
     generalize x[j] = y at *
     obtain ⟨yl, yt⟩ := y
     simp only at g0 g1 g2
     obtain ⟨hyn, _, _⟩ := g2.len
     subst hyn
     have hba2 : Ext wr (wr.alloc (.cells #[.int .i64 yl, .slice ya yt.length yc] 74)) := (Ext.refl _).alloc_ _
     have HBI2 : Hid (Ext wo (wr.alloc (.cells #[.int .i64 yl, .slice ya yt.length yc] 74))) := Lib.hid (hbi.trans' hba2)
     have G2 := Lib.hid (g2.ext hba2)
     have HS : ∀ v, (!(decide ((yt.length : Int) < 1) || decide (18 < (yt.length : Int))) && (if b0 = true then scriptsGo 2 yt else scalars yt)) = v → Hid (targetsB T = (v && (targetsL k (x.drop (j + 1)) && targetsM ((k + 1 : Nat) : Int) (ml.drop (k + 1))))) := fun v hv => Lib.hid (by
      rw [HI.out, HJ.out, ← hv, ← HB0.out]
      simp [targetsL, Bool.and_assoc])
     have HS' := Lib.hid HS
     clear HI HJ HR2 HS g2
     by_cases hlen : 1 ≤ yt.length ∧ yt.length ≤ 18
     ·have hbad : Hid ((!(decide ((yt.length : Int) < 1) || decide (18 < (yt.length : Int)))) = true) := Lib.hid (by simp; omega)
      have dl1 : decide (yt.length < 1) = false := by rw [decide_eq_false_iff_not]; omega
      have dl2 : decide (18 < yt.length) = false := by rw [decide_eq_false_iff_not]; omega
      have dl3 : decide ((yt.length : Int) < 1) = false := by rw [decide_eq_false_iff_not]; omega
      have dl4 : decide (18 < (yt.length : Int)) = false := by rw [decide_eq_false_iff_not]; omega
      cases b0
      ·have HS2 : Hid (∀ v, scalars yt = v → Hid (targetsB T = (v && (targetsL k (x.drop (j + 1)) && targetsM ((k + 1 : Nat) : Int) (ml.drop (k + 1)))))) := fun v hv => HS'.out v (by rw [hbad.out]; simpa using hv)
       clear hbad HS'
       obtain ⟨wm, hwm⟩ : ∃ wm : World, wm = wr.alloc (.cells #[.int .i64 yl, .slice ya yt.length yc] 74) := ⟨_, rfl⟩
       go_wp2_with fail
       go_loopw [38] (fun i wi => ∃ (q : Nat), q ≤ yt.length ∧ i = .int .i64 q ∧ Hid (scalars yt = scalars (yt.drop q)) ∧ wr.alloc (.cells #[.int .i64 yl, .slice ya yt.length yc] 74) = wi) (fun i _ => yt.length - (intOf i).toNat)
       case atStart => exact ⟨0, Nat.zero_le _, rfl, rfl, rfl⟩
       case round =>
        obtain ⟨q, hq, rfl, HQ, rfl⟩ := hrel
        by_cases hltq : q < yt.length
        ·obtain ⟨b5, o5, ha, g5⟩ := G2.out.at_ hltq
         subst ha
         have HJ5 : Hid (yt.drop q = yt[q] :: yt.drop (q + 1)) := drop_at yt q hltq
         generalize yt[q] = z at *
         cases hz : scalarB z
         ·have HF := HS2.out false (by rw [HQ.out, HJ5.out]; simp [scalars, hz])
          have HZ := Lib.hid hz
          clear HQ HJ5 HS2 hz
          go_wp2_with (go_at_call 53; refine (rscalar_spec _ _).mono ?_; rintro e w4 ⟨rfl, rfl⟩; rw [HZ.out])
          go_ret
          exact ⟨ret_bool (by rw [HF.out]; rfl), hb01.trans' (hbr.trans' HBI2.out)⟩
         ·have HQ2 := hid_trans HQ (show _ = scalars (yt.drop (q + 1)) from by rw [HJ5.out]; simp [scalars, hz])
          have HZ := Lib.hid hz
          clear HQ HJ5 hz
          go_wp2_with (go_at_call 53; refine (rscalar_spec _ _).mono ?_; rintro e w4 ⟨rfl, rfl⟩; rw [HZ.out])
          go_roundw
          case rel => exact ⟨q + 1, by omega, by go_num, HQ2, by trivial⟩
          case measure => simp [intOf]; omega
        ·have HF := HS2.out true (by rw [HQ.out, drop_all yt q (by omega)]; rfl)
         clear HS2 HQ
         go_wp2_with fail
         go_roundw
         case rel => exact ⟨j + 1, by omega, by go_num, HF, HBI2.out⟩
         case measure => simp [intOf]; omega
      ·have HS2 : Hid (∀ v, scriptsGo 2 yt = v → Hid (targetsB T = (v && (targetsL k (x.drop (j + 1)) && targetsM ((k + 1 : Nat) : Int) (ml.drop (k + 1)))))) := fun v hv => HS'.out v (by rw [hbad.out]; simpa using hv)
       clear hbad HS'
       go_wp2_with fail
       go_loopw [38] (fun i wi => ∃ (q : Nat) (prev : Int), q ≤ yt.length ∧ i = .int .i64 q ∧ Hid (scriptsGo 2 yt = scriptsGo prev (yt.drop q)) ∧ (q = 0 → prev = 2) ∧ Hid (∀ (hq : q - 1 < yt.length), 0 < q → yt[q - 1] = prev) ∧ wr.alloc (.cells #[.int .i64 yl, .slice ya yt.length yc] 74) = wi) (fun i _ => yt.length - (intOf i).toNat)
       case atStart => exact ⟨0, 2, Nat.zero_le _, rfl, rfl, fun _ => rfl, Lib.hid (fun _ h => by omega), rfl⟩
       case round =>
        obtain ⟨q, prev, hq, rfl, HQ, hla0, HLA, rfl⟩ := hrel
        by_cases hltq : q < yt.length
        ·obtain ⟨b5, o5, ha, g5⟩ := G2.out.at_ hltq
         subst ha
         have HJ5 : Hid (yt.drop q = yt[q] :: yt.drop (q + 1)) := drop_at yt q hltq
         have HX : Hid (∀ hk : q + 1 - 1 < yt.length, 0 < q + 1 → yt[q + 1 - 1] = (yt[q]'hltq)) := Lib.hid (fun _ _ => by simp)
         have HPREV : Hid (∀ i, q = i + 1 → (wr.alloc (.cells #[.int .i64 yl, .slice (some ⟨b5, o5, none⟩) yt.length yc] 74)).cell? ⟨b5, o5 + i, none⟩ = some (.int .i64 prev)) := Lib.hid (fun i hj => by
          obtain ⟨b', o', hbo, h1⟩ := G2.out.at_ (i := i) (by omega)
          injection hbo with hbo
          injection hbo with e1 e2
          subst e1 e2
          have h3 := HLA.out (by omega) (by omega)
          subst hj
          simp only [Nat.add_sub_cancel] at h3
          rw [h1, h3])
         generalize yt[q] = z at *
         have HS5 := hid_trans HQ (show _ = (!(decide (z < 3) || decide (60 < z) || decide (z ≤ prev)) && scriptsGo z (yt.drop (q + 1))) from by rw [HJ5.out, scriptsGo])
         have hk0 : (0 : Int) ≤ (q : Int) := Int.natCast_nonneg _
         have hk1 : (q : Int) < (yt.length : Int) := by omega
         clear HQ HJ5 HLA
         by_cases c1 : z < 3
         ·have HF := HS2.out false (by
           rw [HS5.out]
           have : (decide (z < 3) || decide (60 < z) || decide (z ≤ prev)) = true := by
            simp only [Bool.or_eq_true, decide_eq_true_eq]
            omega
           rw [this]; rfl)
          have dc1 : decide (z < 3) = true := by rw [decide_eq_true_eq]; exact c1
          clear HS2 HS5
          go_wp2_with fail
          go_ret
          exact ⟨ret_bool (by rw [HF.out]; rfl), hb01.trans' (hbr.trans' HBI2.out)⟩
         by_cases c2 : 60 < z
         ·have HF := HS2.out false (by
           rw [HS5.out]
           have : (decide (z < 3) || decide (60 < z) || decide (z ≤ prev)) = true := by
            simp only [Bool.or_eq_true, decide_eq_true_eq]
            omega
           rw [this]; rfl)
          have dc1 : decide (z < 3) = false := by rw [decide_eq_false_iff_not]; exact c1
          have dc2 : decide (60 < z) = true := by rw [decide_eq_true_eq]; exact c2
          clear HS2 HS5
          go_wp2_with fail
          go_ret
          exact ⟨ret_bool (by rw [HF.out]; rfl), hb01.trans' (hbr.trans' HBI2.out)⟩
         rcases Nat.eq_zero_or_pos q with hz | hpos
         ·obtain rfl := hla0 hz
          have dk : decide (0 < q) = false := by rw [decide_eq_false_iff_not]; omega
          clear hz hla0
          have HF : Hid (scriptsGo 2 yt = scriptsGo z (yt.drop (q + 1))) := Lib.hid (by
           rw [HS5.out]
           have : (decide (z < 3) || decide (60 < z) || decide (z ≤ 2)) = false := by
            simp only [Bool.or_eq_false_iff, decide_eq_false_iff_not]
            omega
           rw [this]; rfl)
          have dc1 : decide (z < 3) = false := by rw [decide_eq_false_iff_not]; exact c1
          have dc2 : decide (60 < z) = false := by rw [decide_eq_false_iff_not]; exact c2
          clear HS5
          go_wp2_with fail
          go_roundw
          case rel => exact ⟨q + 1, z, by omega, by go_num, HF, fun h => by omega, HX, by trivial⟩
          case measure => simp [intOf]; omega
         ·obtain ⟨i, hi⟩ : ∃ i, q = i + 1 := ⟨q - 1, by omega⟩
          have hp := HPREV.out i hi
          have dk : decide (0 < q) = true := by rw [decide_eq_true_eq]; omega
          have hsub : (q : Int) - 1 = (i : Int) := by omega
          have hj0 : (0 : Int) ≤ (i : Int) := Int.natCast_nonneg _
          have hj1 : (i : Int) < (yt.length : Int) := by omega
          clear hi hla0
          by_cases c3 : z ≤ prev
          ·have HF := HS2.out false (by
            rw [HS5.out]
            have : (decide (z < 3) || decide (60 < z) || decide (z ≤ prev)) = true := by
             simp only [Bool.or_eq_true, decide_eq_true_eq]
             omega
            rw [this]; rfl)
           have dc1 : decide (z < 3) = false := by rw [decide_eq_false_iff_not]; exact c1
           have dc2 : decide (60 < z) = false := by rw [decide_eq_false_iff_not]; exact c2
           have dc3 : decide (z ≤ prev) = true := by rw [decide_eq_true_eq]; exact c3
           clear HS2 HS5
           go_wp2_with fail
           go_ret
           exact ⟨ret_bool (by rw [HF.out]; rfl), hb01.trans' (hbr.trans' HBI2.out)⟩
          ·have HF : Hid (scriptsGo 2 yt = scriptsGo z (yt.drop (q + 1))) := Lib.hid (by
            rw [HS5.out]
            have : (decide (z < 3) || decide (60 < z) || decide (z ≤ prev)) = false := by
             simp only [Bool.or_eq_false_iff, decide_eq_false_iff_not]
             omega
            rw [this]; rfl)
           have dc1 : decide (z < 3) = false := by rw [decide_eq_false_iff_not]; exact c1
           have dc2 : decide (60 < z) = false := by rw [decide_eq_false_iff_not]; exact c2
           have dc3 : decide (z ≤ prev) = false := by rw [decide_eq_false_iff_not]; exact c3
           clear HS5
           go_wp2_with fail
           go_roundw
           case rel => exact ⟨q + 1, z, by omega, by go_num, HF, fun h => by omega, HX, by trivial⟩
           case measure => simp [intOf]; omega
        ·have HF := HS2.out true (by rw [HQ.out, drop_all yt q (by omega)]; rfl)
         clear HS2 HQ
         go_wp2_with fail
         go_roundw
         case rel => exact ⟨j + 1, by omega, by go_num, HF, HBI2.out⟩
         case measure => simp [intOf]; omega
     ·have HF := HS'.out false (by
       have : (!(decide ((yt.length : Int) < 1) || decide (18 < (yt.length : Int)))) = false := by simp; omega
       rw [this]; rfl)
      clear HS'
      by_cases hlen1 : yt.length < 1
      ·go_wp2_with fail
       go_ret
       exact ⟨ret_bool (by rw [HF.out]; rfl), hb01.trans' (hbr.trans' HBI2.out)⟩
      ·have hlen2 : 18 < yt.length := by omega
       go_wp2_with fail
       go_ret
       exact ⟨ret_bool (by rw [HF.out]; rfl), hb01.trans' (hbr.trans' HBI2.out)⟩
    ·have HF := hid_trans HI (show _ = targetsM ((k + 1 : Nat) : Int) (ml.drop (k + 1)) from by rw [drop_all x j (by omega)]; simp [targetsL])
     clear HI HR2
     go_wp2_with fail
     go_roundw
     case rel => exact ⟨k + 1, by omega, by go_num, HF, hb1i⟩
     case measure => simp [intOf]; omega
  ·have HF := hid_trans HR (show _ = true from by rw [drop_all ml k (by rw [HL4.out]; omega)]; simp [targetsM])
   clear HR
   go_wp2_with fail
   go_ret
   exact ⟨ret_bool HF.out.symm, hb01.trans' hbr⟩
end Go.Proofs.YtbdabjhankgcmaaGreatDoor
