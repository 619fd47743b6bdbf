/- Walks: the lists of the tables, rule 1 and rule 2. -/
import Derived.Test.YtbdabjhankgcmaaGreatDoorGb
namespace Go.Proofs.YtbdabjhankgcmaaGreatDoor
open Go.RowKit
theorem colS_block {w : World} {g : Nat} {t : TypeId} {T : Tbl} {s0 s1 s2 s3 s4 s5 s6 : SV}
  (h : w.heap[g]? = some (.cells #[s0.v, .int .i64 0, .int .i64 8, s1.v, .int .i64 1, .int .i64 254, s2.v, .int .i64 0, .int .i64 5, s3.v, .int .i64 0, .int .i64 11, s4.v, .int .i64 0, .int .i64 60,
   s5.v, .int .i64 0, .int .i64 4, s6.v, .int .i64 1, .int .i64 1] t (0, 0)))
  (h0 : SpanS w s0 T.cat) (h1 : SpanS w s1 T.cls) (h2 : SpanS w s2 T.joi) (h3 : SpanS w s3 T.bid) (h4 : SpanS w s4 T.scr) (h5 : SpanS w s5 T.sta) (h6 : SpanS w s6 T.ign) :
  ColS w ⟨some ⟨g, 0, none⟩, 7, 7⟩ (cols T) := by
 have hc := fun i => cell_of_row w g i _ t (0, 0) h
 refine ⟨⟨rfl, by simp [cols], by simp [maxLen]⟩, fun i x hx => ?_⟩
 have hi : i < 7 := by
  have := (List.getElem?_eq_some_iff.1 hx).1
  simpa [cols] using this
 match i, hi with
 | 0, _ => simp only [cols, List.getElem?_cons_zero, Option.some.injEq] at hx; subst hx; exact ⟨g, 0, s0.a, s0.n, s0.c, rfl, (hc 0).trans rfl, (hc 1).trans rfl, (hc 2).trans rfl, h0⟩
 | 1, _ => simp only [cols, List.getElem?_cons_zero, List.getElem?_cons_succ, Option.some.injEq] at hx; subst hx; exact ⟨g, 0, s1.a, s1.n, s1.c, rfl, (hc 3).trans rfl, (hc 4).trans rfl, (hc 5).trans rfl, h1⟩
 | 2, _ => simp only [cols, List.getElem?_cons_zero, List.getElem?_cons_succ, Option.some.injEq] at hx; subst hx; exact ⟨g, 0, s2.a, s2.n, s2.c, rfl, (hc 6).trans rfl, (hc 7).trans rfl, (hc 8).trans rfl, h2⟩
 | 3, _ => simp only [cols, List.getElem?_cons_zero, List.getElem?_cons_succ, Option.some.injEq] at hx; subst hx; exact ⟨g, 0, s3.a, s3.n, s3.c, rfl, (hc 9).trans rfl, (hc 10).trans rfl, (hc 11).trans rfl, h3⟩
 | 4, _ => simp only [cols, List.getElem?_cons_zero, List.getElem?_cons_succ, Option.some.injEq] at hx; subst hx; exact ⟨g, 0, s4.a, s4.n, s4.c, rfl, (hc 12).trans rfl, (hc 13).trans rfl, (hc 14).trans rfl, h4⟩
 | 5, _ => simp only [cols, List.getElem?_cons_zero, List.getElem?_cons_succ, Option.some.injEq] at hx; subst hx; exact ⟨g, 0, s5.a, s5.n, s5.c, rfl, (hc 15).trans rfl, (hc 16).trans rfl, (hc 17).trans rfl, h5⟩
 | 6, _ => simp only [cols, List.getElem?_cons_zero, List.getElem?_cons_succ, Option.some.injEq] at hx; subst hx; exact ⟨g, 0, s6.a, s6.n, s6.c, rfl, (hc 18).trans rfl, (hc 19).trans rfl, (hc 20).trans rfl, h6⟩
theorem mapsS_block {w : World} {g : Nat} {t : TypeId} {T : Tbl} {s0 s1 s2 s3 : SV} (h : w.heap[g]? = some (.cells #[s0.v, s1.v, s2.v, s3.v] t (0, 0)))
  (h0 : MapS w s0 T.ext) (h1 : MapS w s1 T.mps) (h2 : MapS w s2 T.dec) (h3 : MapS w s3 T.pro) : MapsS w ⟨some ⟨g, 0, none⟩, 4, 4⟩ (maps T) := by
 have hc := fun i => cell_of_row w g i _ t (0, 0) h
 refine ⟨⟨rfl, by simp [maps], by simp [maxLen]⟩, fun i x hx => ?_⟩
 have hi : i < 4 := by
  have := (List.getElem?_eq_some_iff.1 hx).1
  simpa [maps] using this
 match i, hi with
 | 0, _ => simp only [maps, List.getElem?_cons_zero, Option.some.injEq] at hx; subst hx; exact ⟨g, 0, s0.a, s0.n, s0.c, rfl, (hc 0).trans rfl, h0⟩
 | 1, _ => simp only [maps, List.getElem?_cons_zero, List.getElem?_cons_succ, Option.some.injEq] at hx; subst hx; exact ⟨g, 0, s1.a, s1.n, s1.c, rfl, (hc 1).trans rfl, h1⟩
 | 2, _ => simp only [maps, List.getElem?_cons_zero, List.getElem?_cons_succ, Option.some.injEq] at hx; subst hx; exact ⟨g, 0, s2.a, s2.n, s2.c, rfl, (hc 2).trans rfl, h2⟩
 | 3, _ => simp only [maps, List.getElem?_cons_zero, List.getElem?_cons_succ, Option.some.injEq] at hx; subst hx; exact ⟨g, 0, s3.a, s3.n, s3.c, rfl, (hc 3).trans rfl, h3⟩
set_option maxHeartbeats 800000 in
theorem columns_spec (t : TV) (T : Tbl) (w : World) (ht : TblS w t T) :
  Calls Tryz.prog 150 #[t.v] w fun e w' => ∃ b, e = .returned (.slice (some ⟨b, 0, none⟩) 7 7) ∧ ColS w' ⟨some ⟨b, 0, none⟩, 7, 7⟩ (cols T) ∧ Ext w w' := by
 go_enter Tryz.func150, Tryz.ntmps150
 go_wp2
 go_ret
 have hb : Ext w ((w.alloc (.cells t.v.cells 26)).alloc (.cells #[t.s0.v, .int .i64 0, .int .i64 8, t.s1.v, .int .i64 1, .int .i64 254, t.s2.v, .int .i64 0, .int .i64 5, t.s3.v, .int .i64 0, .int .i64 11, t.s4.v, .int .i64 0, .int .i64 60,
   t.s5.v, .int .i64 0, .int .i64 4, t.s6.v, .int .i64 1, .int .i64 1] 130)) := ((Ext.refl _).alloc_ _).alloc_ _
 exact ⟨w.heap.size + 1, rfl, colS_block (alloc2_new _ _ _) (ht.cat.ext hb) (ht.cls.ext hb) (ht.joi.ext hb) (ht.bid.ext hb) (ht.scr.ext hb) (ht.sta.ext hb) (ht.ign.ext hb), hb⟩
theorem mappings_spec (t : TV) (T : Tbl) (w : World) (ht : TblS w t T) :
  Calls Tryz.prog 151 #[t.v] w fun e w' => ∃ b, e = .returned (.slice (some ⟨b, 0, none⟩) 4 4) ∧ MapsS w' ⟨some ⟨b, 0, none⟩, 4, 4⟩ (maps T) ∧ Ext w w' := by
 go_enter Tryz.func151, Tryz.ntmps151
 go_wp2
 go_ret
 have hb : Ext w ((w.alloc (.cells t.v.cells 26)).alloc (.cells #[t.s7.v, t.s8.v, t.s9.v, t.s11.v] 24)) := ((Ext.refl _).alloc_ _).alloc_ _
 exact ⟨w.heap.size + 1, rfl, mapsS_block (alloc2_new _ _ _) (MapS.ext ht.ext hb) (ht.mps.ext hb) (ht.dec.ext hb) (ht.pro.ext hb), hb⟩
set_option maxHeartbeats 800000 in
set_option maxRecDepth 100000 in
theorem rows_spec (t : TV) (T : Tbl) (w : World) (ht : TblS w t T) :
  Calls Tryz.prog 112 #[t.v] w fun e w' => e = .returned (.bool (rowsB T)) ∧ Ext w w' := by
 have HB : Hid (rowsB T = (decide ((T.exc.length : Int) ≤ 256) && rowsC (cols T) && rowsM (maps T))) := rfl
 obtain ⟨hxn, _, _⟩ := ht.exc.len
 have hl7 : (cols T).length = 7 := rfl
 have hl4 : (maps T).length = 4 := rfl
 have HX := Lib.hid hxn
 clear hxn
 have hba : Ext w (w.alloc (.cells t.v.cells 26)) := (Ext.refl _).alloc_ _
 have hca : ∀ k, (w.alloc (.cells t.v.cells 26)).cell? ⟨w.heap.size, k, none⟩ = t.v.cells[k]? := fun k => World.cell?_alloc_new w _ _ k
 go_enter Tryz.func112, Tryz.ntmps112
 go_wp2_with fail
 refine (columns_spec t T _ (ht.ext_ hba)).mono ?_
 rintro e w1 ⟨b1, rfl, hcol, hb1⟩
 have hb01 := hba.trans' hb1
 obtain ⟨hc1, hf1⟩ := bcell hb1.b
 have hz1 : w.heap.size < w1.heap.size := by have := hb1.b.size; simp at this; omega
 generalize cols T = cl at *
 have HL7 := Lib.hid hl7
 clear hl7
 go_wp2_with fail
 go_loopw [3, 15] (fun o i wr => ∃ (k : Nat) (ok : Bool), k ≤ 7 ∧ i = .int .i64 k ∧ o = .bool ok ∧ Hid (rowsB T = (ok && rowsC (cl.drop k) && rowsM (maps T))) ∧ Ext w1 wr) (fun _ i _ => 7 - (intOf i).toNat)
 case atStart => exact ⟨0, _, Nat.zero_le _, rfl, rfl, by rw [← HX.out] at HB; exact HB, Ext.refl _⟩
 case round =>
  obtain ⟨k, ok, hk, rfl, rfl, HR, hbr⟩ := hrel
  by_cases hlt : k < 7
  ·have hlt' : k < cl.length := by rw [HL7.out]; exact hlt
   obtain ⟨b, o, za, zn, zc, ha, h0, h1, h2, h3⟩ := (hcol.ext hbr).at_ hlt'
   injection ha with ha
   injection ha with hbb hoo
   subst hbb hoo
   have HD : Hid (cl.drop k = cl[k] :: cl.drop (k + 1)) := drop_at cl k hlt'
   generalize cl[k] = x at *
   obtain ⟨xl, x1, x2⟩ := x
   simp only [Nat.zero_add] at h0 h1 h2 h3
   obtain ⟨hzn, _, _⟩ := h3.len
   subst hzn
   clear h3
   cases ok
   ·go_wp2
    go_roundw
    case rel => exact ⟨k + 1, false, by omega, by go_num, rfl, hid_trans HR (by simp), hbr.alloc_ _⟩
    case measure => simp [intOf]; omega
   ·go_wp2
    go_roundw
    case rel => exact ⟨k + 1, _, by omega, by go_num, rfl, hid_trans HR (by rw [HD.out]; simp [rowsC]), hbr.alloc_ _⟩
    case measure => simp [intOf]; omega
  ·have HR2 : Hid (rowsB T = (ok && rowsM (maps T))) := Lib.hid (by rw [HR.out, drop_all cl k (by rw [HL7.out]; omega)]; simp [rowsC])
   clear HR HB
   obtain ⟨hcr, hfr⟩ := bcell hbr.b
   have hb0r := hb01.trans' hbr
   have hzr : w1.heap.size ≤ wr.heap.size := hbr.b.size
   go_wp2_with fail
   refine (mappings_spec t T _ (ht.ext_ hb0r)).mono ?_
   rintro e w2 ⟨b2, rfl, hmap, hb2⟩
   have hb02 := hb0r.trans' hb2
   generalize maps T = ml at *
   have HL4 := Lib.hid hl4
   clear hl4
   go_wp2_with fail
   go_loopw [3, 30] (fun o i wr => ∃ (k : Nat) (ok : Bool), k ≤ 4 ∧ i = .int .i64 k ∧ o = .bool ok ∧ Hid (rowsB T = (ok && rowsM (ml.drop k))) ∧ Ext w2 wr) (fun _ i _ => 4 - (intOf i).toNat)
   case atStart => exact ⟨0, _, Nat.zero_le _, rfl, rfl, HR2, Ext.refl _⟩
   case round =>
    obtain ⟨k2, ok2, hk2, rfl, rfl, HRR, hbrr⟩ := hrel
    by_cases hlt2 : k2 < 4
    ·have hlt' : k2 < ml.length := by rw [HL4.out]; exact hlt2
     obtain ⟨b, o, za, zn, zc, ha, h0, h1⟩ := (hmap.ext hbrr).at_ hlt'
     injection ha with ha
     injection ha with hbb hoo
     subst hbb hoo
     have HD : Hid (ml.drop k2 = ml[k2] :: ml.drop (k2 + 1)) := drop_at ml k2 hlt'
     generalize ml[k2] = x at *
     simp only [Nat.zero_add] at h0
     obtain ⟨hzn, _, _⟩ := h1.len
     subst hzn
     clear h1
     cases ok2
     ·go_wp2
      go_roundw
      case rel => exact ⟨k2 + 1, false, by omega, by go_num, rfl, hid_trans HRR (by simp), hbrr⟩
      case measure => simp [intOf]; omega
     ·go_wp2
      go_roundw
      case rel => exact ⟨k2 + 1, _, by omega, by go_num, rfl, hid_trans HRR (by rw [HD.out]; simp [rowsM]), hbrr⟩
      case measure => simp [intOf]; omega
    ·have HR3 : Hid (rowsB T = ok2) := Lib.hid (by rw [HRR.out, drop_all ml k2 (by rw [HL4.out]; omega)]; simp [rowsM])
     go_wp2
     go_ret
     exact ⟨ret_bool HR3.out.symm, hb02.trans' hbrr⟩
set_option maxHeartbeats 1600000 in
set_option maxRecDepth 100000 in
theorem shape_spec (t : TV) (T : Tbl) (w : World) (ht : TblS w t T) :
  Calls Tryz.prog 113 #[t.v] w fun e w' => e = .returned (.bool (shapeB T)) ∧ Ext w w' := by
 have HB : Hid (shapeB T = (shapeC (cols T) && shapeM 0 (maps T) && shapeE (-1) T.exc)) := rfl
 have hxs := ht.exc
 have hl7 : (cols T).length = 7 := rfl
 have hl4 : (maps T).length = 4 := rfl
 have hba : Ext w (w.alloc (.cells t.v.cells 26)) := (Ext.refl _).alloc_ _
 have hca : ∀ k, (w.alloc (.cells t.v.cells 26)).cell? ⟨w.heap.size, k, none⟩ = t.v.cells[k]? := fun k => World.cell?_alloc_new w _ _ k
 go_enter Tryz.func113, Tryz.ntmps113
 go_wp2_with fail
 refine (columns_spec t T _ (ht.ext_ hba)).mono ?_
 rintro e w1 ⟨b1, rfl, hcol, hb1⟩
 have hb01 := hba.trans' hb1
 obtain ⟨hc1, hf1⟩ := bcell hb1.b
 have hz1 : w.heap.size < w1.heap.size := by have := hb1.b.size; simp at this; omega
 generalize cols T = cl at *
 have HL7 := Lib.hid hl7
 clear hl7
 go_wp2_with fail
 go_loopw [18] (fun i wr => ∃ (k : Nat), k ≤ 7 ∧ i = .int .i64 k ∧ Hid (shapeB T = (shapeC (cl.drop k) && shapeM 0 (maps T) && shapeE (-1) T.exc)) ∧ Ext w1 wr) (fun i _ => 7 - (intOf i).toNat)
 case atStart => exact ⟨0, Nat.zero_le _, rfl, HB, Ext.refl _⟩
 case round =>
  obtain ⟨k, hk, rfl, HR, hbr⟩ := hrel
  by_cases hlt : k < 7
  ·have hlt' : k < cl.length := by rw [HL7.out]; exact hlt
   obtain ⟨b, o, za, zn, zc, ha, h0, h1, h2, h3⟩ := (hcol.ext hbr).at_ hlt'
   injection ha with ha
   injection ha with hbb hoo
   subst hbb hoo
   have HD : Hid (cl.drop k = cl[k] :: cl.drop (k + 1)) := drop_at cl k hlt'
   generalize cl[k] = x at *
   obtain ⟨xl, x1, x2⟩ := x
   simp only [Nat.zero_add] at h0 h1 h2 h3
   obtain ⟨hzn, _, _⟩ := h3.len
   subst hzn
   have hba2 : Ext wr (wr.alloc (.cells #[.slice za xl.length zc, .int .i64 x1, .int .i64 x2] 130)) := (Ext.refl _).alloc_ _
   go_wp2_with fail
   refine (ranges_check _ _ _ xl 0 1114111 _ (h3.ext hba2)).mono ?_
   rintro e w2 ⟨rfl, hb2⟩
   have hbr2 := hbr.trans' (hba2.trans' hb2)
   have hb02 := hb01.trans' hbr2
   have h32 := h3.ext (hba2.trans' hb2)
   obtain ⟨hc2, hf2⟩ := bcell hb2.b
   have hz2 : wr.heap.size < w2.heap.size := by have := hb2.b.size; simp at this; omega
   cases hrk : rangeOk 0 1114111 xl
   ·have HR2 : Hid (shapeB T = false) := Lib.hid (by rw [HR.out, HD.out]; simp [shapeC, hrk])
    clear hrk HR HB HD
    go_wp2
    go_ret
    exact ⟨ret_bool HR2.out.symm, hb02⟩
   ·have HR2 : Hid (shapeB T = (outAll xl && (shapeC (cl.drop (k + 1)) && shapeM 0 (maps T) && shapeE (-1) T.exc))) := Lib.hid (by rw [HR.out, HD.out]; simp [shapeC, hrk, Bool.and_assoc])
    clear hrk HR HD h3
    obtain ⟨wo, rfl⟩ : ∃ wo : World, wo = wr := ⟨_, rfl⟩
    go_wp2_with fail
    go_loopw [29] (fun i wi => ∃ (j : Nat), j ≤ xl.length ∧ i = .int .i64 j ∧ Hid (shapeB T = (outAll (xl.drop j) && (shapeC (cl.drop (k + 1)) && shapeM 0 (maps T) && shapeE (-1) T.exc))) ∧ Ext w2 wi) (fun i _ => xl.length - (intOf i).toNat)
    case atStart => exact ⟨0, Nat.zero_le _, rfl, HR2, Ext.refl _⟩
    case round =>
     obtain ⟨j, hj, rfl, HI, hbi⟩ := hrel
     by_cases hltj : j < xl.length
     ·obtain ⟨bb, oo, ha, g0, g1, g2⟩ := (h32.ext hbi).at_ hltj
      subst ha
      have HJ : Hid (xl.drop j = xl[j] :: xl.drop (j + 1)) := drop_at xl j hltj
      generalize xl[j] = y at *
      obtain ⟨yl, yh, yv⟩ := y
      simp only at g0 g1 g2
      have hg2 : Glob (wr.alloc (.cells #[.int .i64 yl, .int .i64 yh, .int .i64 yv] 54)) := (ht.ext_ (hb02.trans' (hbi.trans' ((Ext.refl _).alloc_ _)))).glob
      have hHG := Lib.hid hg2
      clear hg2
      go_wp2_with fail
      refine (outside_spec yl yh yv _ hHG.out).mono ?_
      rintro e w3 ⟨rfl, hb3⟩
      have hbi3 : Ext w2 w3 := (hbi.alloc_ _).trans' hb3
      cases ho : outsideB ⟨yl, yh, yv⟩
      ·have HF : Hid (shapeB T = false) := Lib.hid (by rw [HI.out, HJ.out]; simp [outAll, ho])
       clear ho HI HJ HB
       go_wp2
       go_ret
       exact ⟨ret_bool HF.out.symm, hb02.trans' hbi3⟩
      ·have HF := hid_trans HI (show _ = (outAll (xl.drop (j + 1)) && (shapeC (cl.drop (k + 1)) && shapeM 0 (maps T) && shapeE (-1) T.exc)) from by rw [HJ.out]; simp [outAll, ho])
       clear ho HI HJ
       go_wp2
       go_roundw
       case rel => exact ⟨j + 1, by omega, by go_num, HF, hbi3⟩
       case measure => simp [intOf]; omega
     ·have HF := hid_trans HI (show _ = (shapeC (cl.drop (k + 1)) && shapeM 0 (maps T) && shapeE (-1) T.exc) from by rw [drop_all xl j (by omega)]; simp [outAll])
      clear HI HR2
      go_wp2
      go_roundw
      case rel => exact ⟨k + 1, by omega, by go_num, HF, hbr2.trans' hbi⟩
      case measure => simp [intOf]; omega
  ·have HR2 : Hid (shapeB T = (shapeM 0 (maps T) && shapeE (-1) T.exc)) := Lib.hid (by rw [HR.out, drop_all cl k (by rw [HL7.out]; omega)]; simp [shapeC])
   clear HR HB
   obtain ⟨hcr, hfr⟩ := bcell hbr.b
   have hb0r := hb01.trans' hbr
   have hzr : w1.heap.size ≤ wr.heap.size := hbr.b.size
   go_wp2_with fail
   refine (mappings_spec t T _ (ht.ext_ hb0r)).mono ?_
   rintro e w2 ⟨b2, rfl, hmap, hb2⟩
   have hb02 := hb0r.trans' hb2
   obtain ⟨hc2, hf2⟩ := bcell hb2.b
   have hz2 : wr.heap.size ≤ w2.heap.size := hb2.b.size
   generalize maps T = ml at *
   have HL4 := Lib.hid hl4
   clear hl4
   go_wp2_with fail
   go_loopw [41] (fun i wx => ∃ (k : Nat), k ≤ 4 ∧ i = .int .i64 k ∧ Hid (shapeB T = (shapeM (k : Int) (ml.drop k) && shapeE (-1) T.exc)) ∧ Ext w2 wx) (fun i _ => 4 - (intOf i).toNat)
   case atStart => exact ⟨0, Nat.zero_le _, rfl, HR2, Ext.refl _⟩
   case round =>
    obtain ⟨k2, hk2, rfl, HRR, hbrr⟩ := hrel
    have hb0x := hb02.trans' hbrr
    by_cases hlt2 : k2 < 4
    ·have hlt' : k2 < ml.length := by rw [HL4.out]; exact hlt2
     obtain ⟨b, o, za, zn, zc, ha, h0, h1⟩ := (hmap.ext hbrr).at_ hlt'
     injection ha with ha
     injection ha with hbb hoo
     subst hbb hoo
     have HD : Hid (ml.drop k2 = ml[k2] :: ml.drop (k2 + 1)) := drop_at ml k2 hlt'
     generalize ml[k2] = x at *
     simp only [Nat.zero_add] at h0
     obtain ⟨hzn, _, _⟩ := h1.len
     subst hzn
     have HR3 := hid_trans HRR (show _ = (shapeL k2 (-1) x && (shapeM ((k2 + 1 : Nat) : Int) (ml.drop (k2 + 1)) && shapeE (-1) T.exc)) from by rw [HD.out]; simp [shapeM, Bool.and_assoc])
     clear HRR HD
     obtain ⟨wo, rfl⟩ : ∃ wo : World, wo = wr := ⟨_, rfl⟩
     go_wp2_with fail
     go_loopw [9, 48] (fun la i wi => ∃ (j : Nat) (last : Int), j ≤ x.length ∧ i = .int .i64 j ∧ la = .int .i64 last ∧ Hid (shapeB T = (shapeL k2 last (x.drop j) && (shapeM ((k2 + 1 : Nat) : Int) (ml.drop (k2 + 1)) && shapeE (-1) T.exc))) ∧ Ext wo wi) (fun _ i _ => x.length - (intOf i).toNat)
     case atStart => exact ⟨0, -1, Nat.zero_le _, rfl, rfl, HR3, Ext.refl _⟩
     case round =>
      obtain ⟨j, last, hj, rfl, rfl, HI, hbi⟩ := hrel
      by_cases hltj : j < x.length
      ·obtain ⟨bb, oo, ya, yn, yc, ha, g0, g1, g2⟩ := (h1.ext hbi).at_ hltj
       subst ha
       have HJ : Hid (x.drop j = x[j] :: x.drop (j + 1)) := drop_at x j hltj
       generalize x[j] = y at *
       obtain ⟨yl, yt⟩ := y
       simp only at g0 g1
       clear g2
       have HS : ∀ v, shapeL k2 last (⟨yl, yt⟩ :: x.drop (j + 1)) = v → Hid (shapeB T = (v && (shapeM ((k2 + 1 : Nat) : Int) (ml.drop (k2 + 1)) && shapeE (-1) T.exc))) := fun v hv => by
        rw [← hv, ← HJ.out]; exact HI
       obtain ⟨b3, hb3⟩ : ∃ b3, ((k2 : Int) != 3) = b3 := ⟨_, rfl⟩
       have HSL : Hid (shapeL k2 last (⟨yl, yt⟩ :: x.drop (j + 1)) = ((pointB last yl || (!b3 && decide (last < yl) && nameB yl)) && shapeL k2 yl (x.drop (j + 1)))) := Lib.hid (by
        rw [← hb3, nbne]; rfl)
       clear HI HJ HR3
       go_wp2_with fail
       refine (point_spec _ _ _).mono ?_
       rintro e w3 ⟨rfl, rfl⟩
       cases hp : pointB last yl
       ·rw [hp] at HSL
        have HP := Lib.hid hp
        clear hp
        cases b3 <;> go_wp2_with (go_at_call 155; refine (name_spec _ _).mono ?_; rintro e w4 ⟨rfl, rfl⟩; cases hn : nameB yl)
        all_goals first
         | (go_ret; exact ⟨ret_bool (by rw [(HS false (by rw [HSL.out]; first | (simp [*]; done) | (simp [*]; intros; omega) | (simp; intros; omega))).out]; rfl), hb0x.trans' (hbi.alloc_ _)⟩)
         | (go_roundw
            case rel => exact ⟨j + 1, yl, by omega, by go_num, rfl, HS _ (by rw [HSL.out]; simp [*]), hbi.alloc_ _⟩
            case measure => simp [intOf]; omega)
       ·rw [hp] at HSL
        have HP := Lib.hid hp
        clear hp
        go_wp2_with fail
        go_roundw
        case rel => exact ⟨j + 1, yl, by omega, by go_num, rfl, HS _ (by rw [HSL.out]; simp), hbi.alloc_ _⟩
        case measure => simp [intOf]; omega
      ·have HF := hid_trans HI (show _ = (shapeM ((k2 + 1 : Nat) : Int) (ml.drop (k2 + 1)) && shapeE (-1) T.exc) from by rw [drop_all x j (by omega)]; simp [shapeL])
       clear HI HR3
       go_wp2
       go_roundw
       case rel => exact ⟨k2 + 1, by omega, by go_num, HF, hbrr.trans' hbi⟩
       case measure => simp [intOf]; omega
    ·have HR3 : Hid (shapeB T = shapeE (-1) T.exc) := Lib.hid (by rw [HRR.out, drop_all ml k2 (by rw [HL4.out]; omega)]; simp [shapeM])
     have hbx := tv_box (hb1.trans' (hbr.trans' (hb2.trans' hbrr)))
     have hxs3 := hxs.ext hb0x
     clear hc1 hf1 hc2 hf2 hcr hfr hca
     go_wp2_with fail
     change IntS wr ⟨t.s10.a, t.s10.n, t.s10.c⟩ T.exc at hxs3
     generalize T.exc = xe at *
     obtain ⟨hzn, _, _⟩ := hxs3.len
     clear hxs
     generalize t.s10.a = xa at *
     generalize t.s10.n = xn at *
     generalize t.s10.c = xc at *
     subst hzn
     go_loopw [12, 80] (fun la i wi => ∃ (j : Nat) (last : Int), j ≤ xe.length ∧ i = .int .i64 j ∧ la = .int .i64 last ∧ Hid (shapeB T = shapeE last (xe.drop j)) ∧ wr = wi) (fun _ i _ => xe.length - (intOf i).toNat)
     case atStart => exact ⟨0, -1, Nat.zero_le _, rfl, rfl, HR3, rfl⟩
     case round =>
      obtain ⟨j, last, hj, rfl, rfl, HI, rfl⟩ := hrel
      by_cases hltj : j < xe.length
      ·obtain ⟨bb, oo, ha, g0⟩ := hxs3.at_ hltj
       subst ha
       have HJ : Hid (xe.drop j = xe[j] :: xe.drop (j + 1)) := drop_at xe j hltj
       generalize xe[j] = y at *
       go_wp2_with fail
       refine (point_spec _ _ _).mono ?_
       rintro e w3 ⟨rfl, rfl⟩
       cases hp : pointB last y
       ·have HF : Hid (shapeB T = false) := Lib.hid (by rw [HI.out, HJ.out]; simp [shapeE, hp])
        clear hp HI HJ HR3
        go_wp2
        go_ret
        exact ⟨ret_bool HF.out.symm, hb0x⟩
       ·have HF := hid_trans HI (show _ = shapeE y (xe.drop (j + 1)) from by rw [HJ.out]; simp [shapeE, hp])
        clear hp HI HJ HR3
        go_wp2
        go_roundw
        case rel => exact ⟨j + 1, y, by omega, by go_num, rfl, HF, by trivial⟩
        case measure => simp [intOf]; omega
      ·have HF := hid_trans HI (show _ = true from by rw [drop_all xe j (by omega)]; simp [shapeE])
       clear HI HR3
       go_wp2
       go_ret
       exact ⟨ret_bool HF.out.symm, hb0x⟩
end Go.Proofs.YtbdabjhankgcmaaGreatDoor
