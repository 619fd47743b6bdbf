/- Walks: rule 3 and rule 4. Walks: scripts and rule 4. Walks: rule 5. Walks: the size of a decomposition, rule 6, rule 7. -/
import Derived.Test.YtbdabjhankgcmaaGreatDoorWd
namespace Go.Proofs.YtbdabjhankgcmaaGreatDoor
open Go.RowKit
set_option maxHeartbeats 800000 in
set_option maxRecDepth 100000 in
theorem values_spec (t : TV) (T : Tbl) (w : World) (ht : TblS w t T) :
  Calls Tryz.prog 114 #[t.v] w fun e w' => e = .returned (.bool (valuesB T)) ∧ Ext w w' := by
 have HB : Hid (valuesB T = valuesC (cols T)) := rfl
 have hl7 : (cols T).length = 7 := rfl
 have hba : Ext w (w.alloc (.cells t.v.cells 26)) := (Ext.refl _).alloc_ _
 go_enter Tryz.func114, Tryz.ntmps114
 go_wp2_with fail
 refine (columns_spec t T _ (ht.ext_ hba)).mono ?_
 rintro e w1 ⟨b1, rfl, hcol, hb1⟩
 have hb01 := hba.trans' hb1
 generalize cols T = cl at *
 have HL7 := Lib.hid hl7
 clear hl7
 go_wp2_with fail
 go_loopw [10] (fun i wr => ∃ (k : Nat), k ≤ 7 ∧ i = .int .i64 k ∧ Hid (valuesB T = valuesC (cl.drop k)) ∧ Ext w1 wr) (fun i _ => 7 - (intOf i).toNat)
 case atStart => exact ⟨0, Nat.zero_le _, rfl, HB, Ext.refl _⟩
 case round =>
  obtain ⟨k, hk, rfl, HR, hbr⟩ := hrel
  by_cases hlt : k < 7
  ·have hlt' : k < cl.length := by rw [HL7.out]; exact hlt
   obtain ⟨b, o, za, zn, zc, ha, h0, h1, h2, h3⟩ := (hcol.ext hbr).at_ hlt'
   injection ha with ha
   injection ha with hbb hoo
   subst hbb hoo
   have HD : Hid (cl.drop k = cl[k] :: cl.drop (k + 1)) := drop_at cl k hlt'
   generalize cl[k] = x at *
   obtain ⟨xl, x1, x2⟩ := x
   simp only [Nat.zero_add] at h0 h1 h2 h3
   obtain ⟨hzn, _, _⟩ := h3.len
   subst hzn
   have hba2 : Ext wr (wr.alloc (.cells #[.slice za xl.length zc, .int .i64 x1, .int .i64 x2] 130)) := (Ext.refl _).alloc_ _
   have HR2 := hid_trans HR (show _ = (valuesL x1 x2 xl && valuesC (cl.drop (k + 1))) from by rw [HD.out]; rfl)
   clear HR HD
   obtain ⟨wo, rfl⟩ : ∃ wo : World, wo = wr := ⟨_, rfl⟩
   go_wp2_with fail
   go_loopw [17] (fun i wi => ∃ (j : Nat), j ≤ xl.length ∧ i = .int .i64 j ∧ Hid (valuesB T = (valuesL x1 x2 (xl.drop j) && valuesC (cl.drop (k + 1)))) ∧ Ext (wo.alloc (.cells #[.slice za xl.length zc, .int .i64 x1, .int .i64 x2] 130)) wi) (fun i _ => xl.length - (intOf i).toNat)
   case atStart => exact ⟨0, Nat.zero_le _, rfl, HR2, Ext.refl _⟩
   case round =>
    obtain ⟨j, hj, rfl, HI, hbi⟩ := hrel
    have hbx := box_at hbi
    have hzx : wo.heap.size < wr.heap.size := by have := hbi.b.size; simp at this; omega
    have hb1i := hbr.trans' (hba2.trans' hbi)
    by_cases hltj : j < xl.length
    ·obtain ⟨bb, oo, ha, g0, g1, g2⟩ := (h3.ext (hba2.trans' hbi)).at_ hltj
     subst ha
     have HJ : Hid (xl.drop j = xl[j] :: xl.drop (j + 1)) := drop_at xl j hltj
     generalize xl[j] = y at *
     obtain ⟨yl, yh, yv⟩ := y
     simp only at g0 g1 g2
     clear h0 h1 h2
     have HS : ∀ v, valuesL x1 x2 (⟨yl, yh, yv⟩ :: xl.drop (j + 1)) = v → Hid (valuesB T = (v && valuesC (cl.drop (k + 1)))) := fun v hv => by
      rw [← hv, ← HJ.out]; exact HI
     clear HI HJ HR2 HB
     go_wp2
     all_goals first
      | (go_ret; exact ⟨ret_bool (by rw [(HS false (by simp [valuesL]; first | omega | (intros; omega))).out]; rfl), hb01.trans' (hb1i.alloc_ _)⟩)
      | (go_roundw
         case rel => exact ⟨j + 1, by omega, by go_num, HS _ (by simp [valuesL]; intros; omega), hbi.alloc_ _⟩
         case measure => simp [intOf]; omega)
    ·have HF := hid_trans HI (show _ = valuesC (cl.drop (k + 1)) from by rw [drop_all xl j (by omega)]; simp [valuesL])
     clear HI HR2 h0 h1 h2
     go_wp2
     go_roundw
     case rel => exact ⟨k + 1, by omega, by go_num, HF, hb1i⟩
     case measure => simp [intOf]; omega
  ·have HF := hid_trans HR (show _ = true from by rw [drop_all cl k (by rw [HL7.out]; omega)]; simp [valuesC])
   clear HR
   go_wp2
   go_ret
   exact ⟨ret_bool HF.out.symm, hb01.trans' hbr⟩
end Go.Proofs.YtbdabjhankgcmaaGreatDoor
namespace Go.Proofs.YtbdabjhankgcmaaGreatDoor
open Go.RowKit
set_option maxHeartbeats 800000 in
set_option maxRecDepth 100000 in
theorem scripts_spec (l : List Int) (A : Option Addr) (n c : Nat) (w : World) (h : IntS w ⟨A, n, c⟩ l) :
  Calls Tryz.prog 156 #[.slice A n c] w fun e w' => e = .returned (.bool (scriptsGo 2 l)) ∧ w = w' := by
 obtain ⟨hn, hnc, hcm⟩ := h.len
 subst hn
 go_enter Tryz.func156, Tryz.ntmps156
 go_wp2_with fail
 go_loopw [7] (fun i wr => ∃ (k : Nat) (prev : Int), k ≤ l.length ∧ i = .int .i64 k ∧ Hid (scriptsGo 2 l = scriptsGo prev (l.drop k)) ∧ (k = 0 → prev = 2) ∧ (∀ hk : k ≤ l.length, ∀ h0 : 0 < k, l[k - 1] = prev) ∧ w = wr) (fun i _ => l.length - (intOf i).toNat)
 case atStart => exact ⟨0, 2, Nat.zero_le _, rfl, rfl, fun _ => rfl, fun _ h => absurd h (by omega), rfl⟩
 case round =>
  obtain ⟨k, prev, hk, rfl, HR, hp0, hp1, rfl⟩ := hrel
  by_cases hlt : k < l.length
  ·obtain ⟨b, o, ha, hx⟩ := h.at_ hlt
   have HP1 := Lib.hid hp1
   have HP0 := Lib.hid hp0
   clear hp0 hp1
   have HD : Hid (l.drop k = l[k] :: l.drop (k + 1)) := drop_at l k hlt
   obtain ⟨x, hxe⟩ : ∃ x, l[k] = x := ⟨_, rfl⟩
   rw [hxe] at hx HD
   have HX : Hid (l[k] = x) := hxe
   clear hxe
   by_cases hk0 : k = 0
   ·obtain rfl : prev = 2 := HP0.out hk0
    subst hk0
    subst ha
    have HS : ∀ v, scriptsGo 2 (x :: l.drop 1) = v → Hid (scriptsGo 2 l = v) := fun v hv => Lib.hid (by rw [HR.out, HD.out, hv])
    have HS' := Lib.hid HS
    clear HS HR HD HP0 HP1
    simp only [Nat.add_zero] at hx
    go_wp2
    all_goals first
     | (go_ret; exact ⟨ret_bool (HS'.out false (by simp [scriptsGo]; first | omega | (intros; omega))).out.symm, rfl⟩)
     | (go_roundw
        case rel => exact ⟨1, x, by omega, by go_num, HS'.out _ (by simp [scriptsGo]; intros; omega), fun h => absurd h (by omega), fun _ _ => by simpa using HX.out, by trivial⟩
        case measure => simp [intOf]; omega)
   ·obtain ⟨b', o', ha', hx'⟩ := h.at_ (i := k - 1) (by omega)
    rw [ha] at ha'
    injection ha' with ha'
    injection ha' with e1 e2
    subst e1 e2
    subst ha
    rw [HP1.out hk (by omega)] at hx'
    have HS : ∀ v, scriptsGo prev (x :: l.drop (k + 1)) = v → Hid (scriptsGo 2 l = v) := fun v hv => Lib.hid (by rw [HR.out, HD.out, hv])
    have HS' := Lib.hid HS
    clear HS HR HD HP0 HP1
    obtain ⟨m, rfl⟩ : ∃ m, k = m + 1 := ⟨k - 1, by omega⟩
    simp only [Nat.add_sub_cancel] at hx'
    have hi0 : (0 : Int) ≤ (m : Int) := Int.natCast_nonneg _
    go_wp2
    all_goals first
     | (go_ret; exact ⟨ret_bool (HS'.out false (by simp [scriptsGo]; first | omega | (intros; omega))).out.symm, rfl⟩)
     | (go_roundw
        case rel => exact ⟨m + 1 + 1, x, by omega, by go_num, HS'.out _ (by simp [scriptsGo]; intros; omega), fun h => absurd h (by omega), fun _ _ => by simpa using HX.out, by trivial⟩
        case measure => simp [intOf]; omega)
  ·have HF := hid_trans HR (show _ = true from by rw [drop_all l k (by omega)]; simp [scriptsGo])
   clear HR
   go_wp2
   go_ret
   exact ⟨ret_bool HF.out.symm, rfl⟩
set_option maxHeartbeats 1600000 in
set_option maxRecDepth 100000 in
theorem targets_spec (t : TV) (T : Tbl) (w : World) (ht : TblS w t T) :
  Calls Tryz.prog 115 #[t.v] w fun e w' => e = .returned (.bool (targetsB T)) ∧ Ext w w' := by
 have HB : Hid (targetsB T = targetsM ((0 : Nat) : Int) (maps T)) := rfl
 have hl4 : (maps T).length = 4 := rfl
 have hba : Ext w (w.alloc (.cells t.v.cells 26)) := (Ext.refl _).alloc_ _
 go_enter Tryz.func115, Tryz.ntmps115
 go_wp2_with fail
 refine (mappings_spec t T _ (ht.ext_ hba)).mono ?_
 rintro e w1 ⟨b1, rfl, hmap, hb1⟩
 have hb01 := hba.trans' hb1
 generalize maps T = ml at *
 have HL4 := Lib.hid hl4
 clear hl4
 go_wp2_with fail
 go_loopw [12] (fun i wr => ∃ (k : Nat), k ≤ 4 ∧ i = .int .i64 k ∧ Hid (targetsB T = targetsM (k : Int) (ml.drop k)) ∧ Ext w1 wr) (fun i _ => 4 - (intOf i).toNat)
 case atStart => exact ⟨0, Nat.zero_le _, rfl, HB, Ext.refl _⟩
 case round =>
  obtain ⟨k, hk, rfl, HR, hbr⟩ := hrel
  by_cases hlt : k < 4
  ·have hlt' : k < ml.length := by rw [HL4.out]; exact hlt
   obtain ⟨b, o, za, zn, zc, ha, h0, h1⟩ := (hmap.ext hbr).at_ hlt'
   injection ha with ha
   injection ha with hbb hoo
   subst hbb hoo
   have HD : Hid (ml.drop k = ml[k] :: ml.drop (k + 1)) := drop_at ml k hlt'
   generalize ml[k] = x at *
   simp only [Nat.zero_add] at h0
   obtain ⟨hzn, _, _⟩ := h1.len
   subst hzn
   have HR2 := hid_trans HR (show _ = (targetsL k x && targetsM ((k + 1 : Nat) : Int) (ml.drop (k + 1))) from by rw [HD.out]; simp [targetsM])
   clear HR HD HB
   obtain ⟨wo, rfl⟩ : ∃ wo : World, wo = wr := ⟨_, rfl⟩
   go_wp2_with fail
   go_loopw [19] (fun i wi => ∃ (j : Nat), j ≤ x.length ∧ i = .int .i64 j ∧ Hid (targetsB T = (targetsL k (x.drop j) && targetsM ((k + 1 : Nat) : Int) (ml.drop (k + 1)))) ∧ Ext wo wi) (fun i _ => x.length - (intOf i).toNat)
   case atStart => exact ⟨0, Nat.zero_le _, rfl, HR2, Ext.refl _⟩
   case round =>
    obtain ⟨j, hj, rfl, HI, hbi⟩ := hrel
    have hb1i := hbr.trans' hbi
    by_cases hltj : j < x.length
    ·obtain ⟨bb, oo, ya, yn, yc, ha, g0, g1, g2⟩ := (h1.ext hbi).at_ hltj
     subst ha
     have HJ : Hid (x.drop j = x[j] :: x.drop (j + 1)) := drop_at x j hltj
     generalize x[j] = y at *
     obtain ⟨yl, yt⟩ := y
     simp only at g0 g1 g2
     obtain ⟨hyn, _, _⟩ := g2.len
     subst hyn
     clear h0
     obtain ⟨b0, hb0⟩ : ∃ b0, ((k : Int) == 0) = b0 := ⟨_, rfl⟩
     have HS : ∀ v, (!(decide ((yt.length : Int) < 1) || decide (18 < (yt.length : Int))) && (if b0 = true then scriptsGo 2 yt else scalars yt)) = v → Hid (targetsB T = (v && (targetsL k (x.drop (j + 1)) && targetsM ((k + 1 : Nat) : Int) (ml.drop (k + 1))))) := fun v hv => Lib.hid (by
      rw [HI.out, HJ.out, ← hv, ← hb0]
      simp [targetsL, Bool.and_assoc])
     have HS' := Lib.hid HS
     have hba2 : Ext wr (wr.alloc (.cells #[.int .i64 yl, .slice ya yt.length yc] 74)) := (Ext.refl _).alloc_ _
     have g2' := g2.ext hba2
     clear HI HJ HR2 HS g2
     by_cases hlen : 1 ≤ yt.length ∧ yt.length ≤ 18
     ·have hbad : Hid ((!(decide ((yt.length : Int) < 1) || decide (18 < (yt.length : Int)))) = true) := Lib.hid (by simp; omega)
      cases b0
      ·have HS2 : Hid (∀ v, scalars yt = v → Hid (targetsB T = (v && (targetsL k (x.drop (j + 1)) && targetsM ((k + 1 : Nat) : Int) (ml.drop (k + 1)))))) := fun v hv => HS'.out v (by rw [hbad.out]; simpa using hv)
       clear hbad HS'
       obtain ⟨wm, rfl⟩ : ∃ wm : World, wm = wr := ⟨_, rfl⟩
       go_wp2_with fail
       go_loopw [42] (fun i wi => ∃ (q : Nat), q ≤ yt.length ∧ i = .int .i64 q ∧ Hid (scalars yt = scalars (yt.drop q)) ∧ wm.alloc (.cells #[.int .i64 yl, .slice ya yt.length yc] 74) = wi) (fun i _ => yt.length - (intOf i).toNat)
       case atStart => exact ⟨0, Nat.zero_le _, rfl, rfl, rfl⟩
       case round =>
        obtain ⟨q, hq, rfl, HQ, rfl⟩ := hrel
        by_cases hltq : q < yt.length
        ·obtain ⟨b5, o5, ha, g5⟩ := g2'.at_ hltq
         subst ha
         have HJ5 : Hid (yt.drop q = yt[q] :: yt.drop (q + 1)) := drop_at yt q hltq
         generalize yt[q] = z at *
         cases hz : scalarB z
         ·have HF := HS2.out false (by rw [HQ.out, HJ5.out]; simp [scalars, hz])
          have hz0 : utfLen z = 0 := (utfLen_eq_zero z).2 hz
          have HZ := Lib.hid hz0
          clear HQ HJ5 HS2 hz hz0
          go_wp2_with (go_at_call 71; refine (length_spec _ _).mono ?_; rintro e w4 ⟨rfl, rfl⟩; rw [HZ.out])
          go_ret
          exact ⟨ret_bool (by rw [HF.out]; rfl), hb01.trans' (hb1i.alloc_ _)⟩
         ·have HQ2 := hid_trans HQ (show _ = scalars (yt.drop (q + 1)) from by rw [HJ5.out]; simp [scalars, hz])
          have hz0 : (utfLen z == 0) = false := by
           rw [beq_eq_false_iff_ne]; intro h; have := (utfLen_eq_zero z).1 h; rw [hz] at this; cases this
          clear HQ HJ5 hz
          go_wp2_with (go_at_call 71; refine (length_spec _ _).mono ?_; rintro e w4 ⟨rfl, rfl⟩)
          go_roundw
          case rel => exact ⟨q + 1, by omega, by go_num, HQ2, by trivial⟩
          case measure => simp [intOf]; omega
        ·have HF := HS2.out true (by rw [HQ.out, drop_all yt q (by omega)]; rfl)
         clear HS2 HQ
         go_wp2
         go_roundw
         case rel => exact ⟨j + 1, by omega, by go_num, HF, hbi.alloc_ _⟩
         case measure => simp [intOf]; omega
      ·have HS2 : Hid (∀ v, scriptsGo 2 yt = v → Hid (targetsB T = (v && (targetsL k (x.drop (j + 1)) && targetsM ((k + 1 : Nat) : Int) (ml.drop (k + 1)))))) := fun v hv => HS'.out v (by rw [hbad.out]; simpa using hv)
       clear hbad HS'
       go_wp2_with fail
       refine (scripts_spec yt _ _ _ _ g2').mono ?_
       rintro e w4 ⟨rfl, rfl⟩
       cases hsg : scriptsGo 2 yt
       ·have HF := HS2.out false hsg
        clear hsg HS2
        go_wp2
        go_ret
        exact ⟨ret_bool (by rw [HF.out]; rfl), hb01.trans' (hb1i.alloc_ _)⟩
       ·have HF := HS2.out true hsg
        clear hsg HS2
        go_wp2
        go_roundw
        case rel => exact ⟨j + 1, by omega, by go_num, HF, hbi.alloc_ _⟩
        case measure => simp [intOf]; omega
     ·have HF := HS'.out false (by
       have : (!(decide ((yt.length : Int) < 1) || decide (18 < (yt.length : Int)))) = false := by simp; omega
       rw [this]; rfl)
      clear HS'
      by_cases hlen1 : yt.length < 1
      ·go_wp2
       go_ret
       exact ⟨ret_bool (by rw [HF.out]; rfl), hb01.trans' (hb1i.alloc_ _)⟩
      ·have hlen2 : 18 < yt.length := by omega
       go_wp2
       go_ret
       exact ⟨ret_bool (by rw [HF.out]; rfl), hb01.trans' (hb1i.alloc_ _)⟩
    ·have HF := hid_trans HI (show _ = targetsM ((k + 1 : Nat) : Int) (ml.drop (k + 1)) from by rw [drop_all x j (by omega)]; simp [targetsL])
     clear HI HR2 h0
     go_wp2
     go_roundw
     case rel => exact ⟨k + 1, by omega, by go_num, HF, hb1i⟩
     case measure => simp [intOf]; omega
  ·have HF := hid_trans HR (show _ = true from by rw [drop_all ml k (by rw [HL4.out]; omega)]; simp [targetsM])
   clear HR
   go_wp2
   go_ret
   exact ⟨ret_bool HF.out.symm, hb01.trans' hbr⟩
end Go.Proofs.YtbdabjhankgcmaaGreatDoor
namespace Go.Proofs.YtbdabjhankgcmaaGreatDoor
open Go.RowKit
theorem sumMapped_step {n : Int} {s : Sp} {r : List Sp} : sumMapped n (s :: r) = sumMapped (if s.val = 3 then n + (s.hi - s.lo + 1) else n) r := rfl
set_option maxHeartbeats 1600000 in
set_option maxRecDepth 100000 in
theorem mapped_spec (t : TV) (T : Tbl) (w : World) (ht : TblS w t T) (hs : Srt T) (hbd : ∀ s ∈ T.sta, 0 ≤ s.lo ∧ s.lo ≤ s.hi ∧ s.hi ≤ 1114111) :
  Calls Tryz.prog 116 #[t.v] w fun e w' => e = .returned (.bool (mappedB T)) ∧ Ext w w' := by
 have HB : Hid (mappedB T = (decide (sumMapped 0 T.sta = (T.mps.length : Int)) && mappedL T T.mps)) := rfl
 have hba : Ext w (w.alloc (.cells t.v.cells 26)) := (Ext.refl _).alloc_ _
 have hle1 : T.sta.length ≤ 256 := hs.sta.2
 have HBD : Hid (∀ s ∈ T.sta, 0 ≤ s.lo ∧ s.lo ≤ s.hi ∧ s.hi ≤ 1114111) := hbd
 clear hbd
 obtain ⟨s0, s1, s2, s3, s4, ⟨A5, n5, c5⟩, s6, s7, ⟨A8, n8, c8⟩, s9, s10, s11⟩ := t
 have hst : SpanS w ⟨A5, n5, c5⟩ T.sta := ht.sta
 have hmp : MapS w ⟨A8, n8, c8⟩ T.mps := ht.mps
 obtain ⟨L1, hL1⟩ : ∃ l, l = T.sta := ⟨_, rfl⟩
 obtain ⟨L2, hL2⟩ : ∃ l, l = T.mps := ⟨_, rfl⟩
 rw [← hL1] at HB hle1 HBD hst
 rw [← hL2] at HB hmp
 clear hL1 hL2
 obtain ⟨hn1, _, _⟩ := hst.len
 obtain ⟨hn2, _, _⟩ := hmp.len
 subst hn1 hn2
 go_enter Tryz.func116, Tryz.ntmps116
 go_wp2_with fail
 go_loopw [3, 14] (fun s i wr => ∃ (k : Nat) (n : Int), k ≤ L1.length ∧ i = .int .i64 k ∧ s = .int .i64 n ∧ 0 ≤ n ∧ n ≤ 1114112 * k ∧ Hid (sumMapped 0 L1 = sumMapped n (L1.drop k)) ∧
  Ext (w.alloc (.cells #[.slice s0.a s0.n s0.c, .slice s1.a s1.n s1.c, .slice s2.a s2.n s2.c, .slice s3.a s3.n s3.c, .slice s4.a s4.n s4.c, .slice A5 L1.length c5, .slice s6.a s6.n s6.c, .slice s7.a s7.n s7.c, .slice A8 L2.length c8, .slice s9.a s9.n s9.c, .slice s10.a s10.n s10.c, .slice s11.a s11.n s11.c] 26)) wr) (fun _ i _ => L1.length - (intOf i).toNat)
 case atStart => exact ⟨0, 0, Nat.zero_le _, rfl, rfl, by omega, by omega, rfl, Ext.refl _⟩
 case round =>
  obtain ⟨k, n, hk, rfl, rfl, hn0, hn1, HR, hbr⟩ := hrel
  have hb0r : Ext w wr := hba.trans' hbr
  by_cases hlt : k < L1.length
  ·obtain ⟨b, o, ha, h0, h1, h2⟩ := (hst.ext hb0r).at_ hlt
   subst ha
   have HD : Hid (L1.drop k = L1[k] :: L1.drop (k + 1)) := drop_at L1 k hlt
   obtain ⟨q0, q1, q2⟩ := HBD.out L1[k] (by simp)
   generalize L1[k] = x at *
   obtain ⟨xl, xh, xv⟩ := x
   simp only at h0 h1 h2 q0 q1 q2
   have hx3 : ∀ v, (if xv = 3 then n + (xh - xl + 1) else n) = v → Hid (sumMapped 0 L1 = sumMapped v (L1.drop (k + 1))) := fun v hv => hid_trans HR (by rw [HD.out, sumMapped_step, ← hv])
   have HX3 := Lib.hid hx3
   clear hx3 HR HD
   by_cases hv : xv = 3
   ·have HF := HX3.out (n + (xh - xl + 1)) (if_pos hv)
    have hv3 : (xv == 3) = true := by rw [beq_iff_eq]; exact hv
    clear hv HX3
    go_wp2
    go_roundw
    case rel => exact ⟨k + 1, _, by omega, by go_num, rfl, by omega, by omega, HF, hbr.alloc_ _⟩
    case measure => simp [intOf]; omega
   ·have HF := HX3.out n (if_neg hv)
    have hv3 : (xv == 3) = false := by rw [beq_eq_false_iff_ne]; exact hv
    clear hv HX3
    go_wp2
    go_roundw
    case rel => exact ⟨k + 1, _, by omega, by go_num, rfl, by omega, by omega, HF, hbr.alloc_ _⟩
    case measure => simp [intOf]; omega
  ·have HN := hid_trans HR (show _ = n from by rw [drop_all L1 k (by omega)]; rfl)
   have hbx := box_at hbr
   have hzx : w.heap.size < wr.heap.size := by have := hbr.b.size; simp at this; omega
   clear HR
   by_cases hnm : n = (L2.length : Int)
   ·have HR2 : Hid (mappedB T = mappedL T L2) := Lib.hid (by rw [HB.out, HN.out, hnm]; simp)
    have hnb : (n != (L2.length : Int)) = false := by rw [bne_eq_false_iff_eq]; exact hnm
    clear hnm HN HB
    obtain ⟨wo, rfl⟩ : ∃ wo : World, wo = wr := ⟨_, rfl⟩
    go_wp2_with fail
    go_loopw [38] (fun i wi => ∃ (k : Nat), k ≤ L2.length ∧ i = .int .i64 k ∧ Hid (mappedB T = mappedL T (L2.drop k)) ∧ Ext wo wi) (fun i _ => L2.length - (intOf i).toNat)
    case atStart => exact ⟨0, Nat.zero_le _, rfl, HR2, Ext.refl _⟩
    case round =>
     obtain ⟨j, hj, rfl, HI, hbi⟩ := hrel
     have hb0i := hb0r.trans' hbi
     by_cases hltj : j < L2.length
     ·obtain ⟨bb, oo, ya, yn, yc, ha, g0, g1, g2⟩ := (hmp.ext hb0i).at_ hltj
      subst ha
      have HJ : Hid (L2.drop j = L2[j] :: L2.drop (j + 1)) := drop_at L2 j hltj
      generalize L2[j] = y at *
      obtain ⟨yl, yt⟩ := y
      simp only at g0 g1 g2
      obtain ⟨hyn, _, _⟩ := g2.len
      subst hyn
      have HS : ∀ v, (decide (staT T yl = 3) && mappedTo T yt) = v → Hid (mappedB T = (v && mappedL T (L2.drop (j + 1)))) := fun v hv => Lib.hid (by rw [HI.out, HJ.out, ← hv]; rfl)
      have HS' := Lib.hid HS
      have hbx2 := box_at (hbr.trans' hbi)
      have hzx2 : w.heap.size < wr.heap.size := by have := hbi.b.size; omega
      have hba2 : Ext wr (wr.alloc (.cells #[.int .i64 yl, .slice ya yt.length yc] 74)) := (Ext.refl _).alloc_ _
      have hb0i2 := hb0i.trans' hba2
      have ht2 := Lib.hid (ht.ext_ hb0i2)
      clear hbx HI HJ HR2 HS
      go_wp2_with fail
      refine (status_spec _ T yl _ ht2.out hs).mono ?_
      rintro e w3 ⟨rfl, hb3⟩
      cases hsv : (staT T yl != 3)
      ·have hsv' : decide (staT T yl = 3) = true := by rw [← nbne, hsv]; rfl
       have HS2 : Hid (∀ v, mappedTo T yt = v → Hid (mappedB T = (v && mappedL T (L2.drop (j + 1))))) := fun v hv => HS'.out v (by rw [hsv', hv]; rfl)
       have g23 := g2.ext (hba2.trans' hb3)
       have gbx := box_at hb3
       have hzb : wr.heap.size < w3.heap.size := by have := hb3.b.size; simp at this; omega
       have hbo3 := hbi.trans' (hba2.trans' hb3)
       clear hsv' HS'
       go_wp2_with fail
       go_loopw [50] (fun i wi => ∃ (q : Nat), q ≤ yt.length ∧ i = .int .i64 q ∧ Hid (mappedTo T yt = mappedTo T (yt.drop q)) ∧ Ext w3 wi) (fun i _ => yt.length - (intOf i).toNat)
       case atStart => exact ⟨0, Nat.zero_le _, rfl, rfl, Ext.refl _⟩
       case round =>
        obtain ⟨q, hq, rfl, HQ, hbq⟩ := hrel
        have hboq := hbo3.trans' hbq
        have hb0q := hb0r.trans' hboq
        by_cases hltq : q < yt.length
        ·obtain ⟨b5, o5, ha, g5⟩ := (g23.ext hbq).at_ hltq
         subst ha
         have HJ5 : Hid (yt.drop q = yt[q] :: yt.drop (q + 1)) := drop_at yt q hltq
         generalize yt[q] = z at *
         have hbx3 := box_at (hbr.trans' hboq)
         have hzx3 : w.heap.size < wr.heap.size := by have := hboq.b.size; omega
         have htq := Lib.hid (ht.ext_ hb0q)
         clear hbx2 gbx
         go_wp2_with fail
         refine (status_spec _ T z _ htq.out hs).mono ?_
         rintro e w5 ⟨rfl, hb5⟩
         have HQ2 : ∀ v, (decide (staT T z = 1) || decide (staT T z = 4)) = v → Hid (mappedTo T yt = (v && mappedTo T (yt.drop (q + 1)))) := fun v hv => hid_trans HQ (by rw [HJ5.out, ← hv]; rfl)
         generalize staT T z = sz at *
         by_cases hz : sz = 1 ∨ sz = 4
         ·have HF := HQ2 true (by simp; exact hz)
          have HF2 := hid_trans HF (show _ = mappedTo T (yt.drop (q + 1)) from by simp)
          have hz' := Lib.hid hz
          clear HQ HJ5 HQ2 HF hz
          rcases hz'.out with rfl | rfl
          ·go_wp2
           go_roundw
           case rel => exact ⟨q + 1, by omega, by go_num, HF2, hbq.trans' hb5⟩
           case measure => simp [intOf]; omega
          ·go_wp2
           go_roundw
           case rel => exact ⟨q + 1, by omega, by go_num, HF2, hbq.trans' hb5⟩
           case measure => simp [intOf]; omega
         ·have HF := HQ2 false (by simp; omega)
          have HF2 := HS2.out false (by rw [HF.out]; rfl)
          have hz1 : (sz != 1) = true := by rw [bne_iff_ne]; omega
          have hz2 : (sz != 4) = true := by rw [bne_iff_ne]; omega
          clear HQ HJ5 HQ2 HF hz HS2
          go_wp2
          go_ret
          exact ⟨ret_bool (by rw [HF2.out]; rfl), hb0q.trans' hb5⟩
        ·have HF := HS2.out true (by rw [HQ.out, drop_all yt q (by omega)]; rfl)
         clear HS2 HQ
         go_wp2
         go_roundw
         case rel => exact ⟨j + 1, by omega, by go_num, HF, hboq⟩
         case measure => simp [intOf]; omega
      ·have hsv' : decide (staT T yl = 3) = false := by rw [← nbne, hsv]; rfl
       have HF := HS'.out false (by rw [hsv']; rfl)
       clear hsv' HS'
       go_wp2
       go_ret
       exact ⟨ret_bool (by rw [HF.out]; rfl), hb0i2.trans' hb3⟩
     ·have HF := hid_trans HI (show _ = true from by rw [drop_all L2 j (by omega)]; simp [mappedL])
      clear HI HR2
      go_wp2
      go_ret
      exact ⟨ret_bool HF.out.symm, hb0i⟩
   ·have HR2 : Hid (mappedB T = false) := Lib.hid (by rw [HB.out, HN.out]; simp [hnm])
    have hnb : (n != (L2.length : Int)) = true := by rw [bne_iff_ne]; exact hnm
    clear hnm HN HB
    go_wp2
    go_ret
    exact ⟨ret_bool HR2.out.symm, hb0r⟩
end Go.Proofs.YtbdabjhankgcmaaGreatDoor
namespace Go.Proofs.YtbdabjhankgcmaaGreatDoor
open Go.RowKit
theorem szL_bd {f : Int → Int} (hf : ∀ d, 0 ≤ f d) : ∀ (l : List Int) (n : Int), 0 ≤ n → n ≤ 18 → 0 ≤ szL f n l ∧ szL f n l ≤ 19
 | [], n, h0, h1 => by simp only [szL]; omega
 | d :: r, n, h0, h1 => by
  simp only [szL]
  have := hf d
  by_cases h : 18 < n + f d
  ·rw [if_pos h]; omega
  ·rw [if_neg h]; exact szL_bd hf r _ (by omega) (by omega)
theorem szN_bd (D : List Mp) : ∀ (k : Nat) (c : Int), 0 ≤ szN D k c ∧ szN D k c ≤ 19
 | 0, c => by
  simp only [szN]
  by_cases h : mpFind D c = []
  ·rw [if_pos h]; omega
  ·rw [if_neg h]; omega
 | k + 1, c => by
  simp only [szN]
  by_cases h : mpFind D c = []
  ·rw [if_pos h]; omega
  ·rw [if_neg h]; exact szL_bd (fun d => (szN_bd D k d).1) _ 0 (by omega) (by omega)
set_option maxHeartbeats 1600000 in
set_option maxRecDepth 100000 in
theorem size_spec (T : Tbl) (hs : Srt T) (hn : NonEs T) : ∀ (k : Nat) (t : TV) (c depth : Int) (w : World) (_ : depth + k = T.dec.length + 1) (_ : 0 ≤ depth) (_ : TblS w t T),
  Calls Tryz.prog 159 #[t.v, .int .i64 c, .int .i64 depth] w fun e w' => e = .returned (.int .i64 (szN T.dec k c)) ∧ Ext w w' := by
 intro k
 induction k with
 | zero =>
  intro t c depth w hd h0 ht
  obtain ⟨s0, s1, s2, s3, s4, s5, s6, s7, s8, ⟨A, n, cc⟩, s10, s11⟩ := t
  have hx : MapS w ⟨A, n, cc⟩ T.dec := ht.dec
  obtain ⟨hl, _, _⟩ := hx.len
  have hl256 := hs.dec.2
  subst hl
  have hdl : (T.dec.length : Int) < depth := by omega
  have hd2 : depth ≤ 257 := by omega
  have HV : Hid (szN T.dec 0 c = if mpFind T.dec c = [] then 1 else 19) := rfl
  clear hd
  have hba : Ext w (w.alloc (.cells #[.slice s0.a s0.n s0.c, .slice s1.a s1.n s1.c, .slice s2.a s2.n s2.c, .slice s3.a s3.n s3.c, .slice s4.a s4.n s4.c, .slice s5.a s5.n s5.c, .slice s6.a s6.n s6.c, .slice s7.a s7.n s7.c, .slice s8.a s8.n s8.c, .slice A T.dec.length cc, .slice s10.a s10.n s10.c, .slice s11.a s11.n s11.c] 26)) := (Ext.refl _).alloc_ _
  go_enter Tryz.func159, Tryz.ntmps159
  go_wp2_with fail
  refine (find_spec T.dec _ _ _ c _ (hx.ext hba) hs.dec.1 hn.dec hs.dec.2).mono ?_
  rintro e w1 ⟨za, zn, zc, rfl, hz, hnil, hb1⟩
  have hbx := box_at hb1
  have hb01 := hba.trans' hb1
  rcases find_cases hz hnil with ⟨he, rfl, rfl, rfl⟩ | ⟨b, o, he, rfl⟩
  ·have HF : Hid (szN T.dec 0 c = 1) := Lib.hid (by rw [HV.out, if_pos he])
   clear he hz hnil HV
   go_wp2
   go_ret
   exact ⟨ret_int HF.out.symm, hb01⟩
  ·have HF : Hid (szN T.dec 0 c = 19) := Lib.hid (by rw [HV.out, if_neg he])
   clear he hz hnil HV
   go_wp2
   go_ret
   exact ⟨ret_int HF.out.symm, hb01⟩
 | succ k ih =>
  intro t c depth w hd h0 ht
  have IH := Lib.hid ih
  clear ih
  obtain ⟨s0, s1, s2, s3, s4, s5, s6, s7, s8, ⟨A, n, cc⟩, s10, s11⟩ := t
  have hx : MapS w ⟨A, n, cc⟩ T.dec := ht.dec
  obtain ⟨hl, _, _⟩ := hx.len
  have hl256 := hs.dec.2
  subst hl
  have hdl : depth ≤ (T.dec.length : Int) := by omega
  have hd2 : depth ≤ 257 := by omega
  have HDK : Hid (depth + 1 + (k : Int) = T.dec.length + 1) := Lib.hid (by omega)
  have HV : Hid (szN T.dec (k + 1) c = if mpFind T.dec c = [] then 1 else szL (szN T.dec k) 0 (mpFind T.dec c)) := rfl
  clear hd
  have hba : Ext w (w.alloc (.cells #[.slice s0.a s0.n s0.c, .slice s1.a s1.n s1.c, .slice s2.a s2.n s2.c, .slice s3.a s3.n s3.c, .slice s4.a s4.n s4.c, .slice s5.a s5.n s5.c, .slice s6.a s6.n s6.c, .slice s7.a s7.n s7.c, .slice s8.a s8.n s8.c, .slice A T.dec.length cc, .slice s10.a s10.n s10.c, .slice s11.a s11.n s11.c] 26)) := (Ext.refl _).alloc_ _
  go_enter Tryz.func159, Tryz.ntmps159
  go_wp2_with fail
  refine (find_spec T.dec _ _ _ c _ (hx.ext hba) hs.dec.1 hn.dec hs.dec.2).mono ?_
  rintro e w1 ⟨za, zn, zc, rfl, hz, hnil, hb1⟩
  have hbx := box_at hb1
  have hb01 := hba.trans' hb1
  rcases find_cases hz hnil with ⟨he, rfl, rfl, rfl⟩ | ⟨b, o, he, rfl⟩
  ·have HF : Hid (szN T.dec (k + 1) c = 1) := Lib.hid (by rw [HV.out, if_pos he])
   clear he hz hnil HV
   go_wp2
   go_ret
   exact ⟨ret_int HF.out.symm, hb01⟩
  ·have HF : Hid (szN T.dec (k + 1) c = szL (szN T.dec k) 0 (mpFind T.dec c)) := Lib.hid (by rw [HV.out, if_neg he])
   clear he hnil HV
   generalize mpFind T.dec c = l at *
   obtain ⟨hzn, _, _⟩ := hz.len
   subst hzn
   have hzx : w.heap.size < w1.heap.size := by have := hb1.b.size; simp at this; omega
   go_wp2_with fail
   go_loopw [8, 24] (fun s i wr => ∃ (j : Nat) (m : Int), j ≤ l.length ∧ i = .int .i64 j ∧ s = .int .i64 m ∧ 0 ≤ m ∧ m ≤ 18 ∧ Hid (szN T.dec (k + 1) c = szL (szN T.dec k) m (l.drop j)) ∧ Ext w1 wr) (fun _ i _ => l.length - (intOf i).toNat)
   case atStart => exact ⟨0, 0, Nat.zero_le _, rfl, rfl, by omega, by omega, HF, Ext.refl _⟩
   case round =>
    obtain ⟨j, m, hj, rfl, rfl, hm0, hm1, HR, hbr⟩ := hrel
    have hb0r := hb01.trans' hbr
    by_cases hlt : j < l.length
    ·obtain ⟨b5, o5, ha, g5⟩ := (hz.ext hbr).at_ hlt
     injection ha with ha
     injection ha with e1 e2
     subst e1 e2
     have HJ : Hid (l.drop j = l[j] :: l.drop (j + 1)) := drop_at l j hlt
     generalize l[j] = d at *
     have hbx2 := box_at (hb1.trans' hbr)
     have hzx2 : w.heap.size < wr.heap.size := by have := hbr.b.size; omega
     have htr := Lib.hid (ht.ext_ hb0r)
     have HS : Hid (szN T.dec (k + 1) c = szL (szN T.dec k) m (d :: l.drop (j + 1))) := hid_trans HR (by rw [HJ.out])
     clear hbx HR HJ HF
     go_wp2_with fail
     refine (IH.out _ d (depth + 1) _ HDK.out (by omega) htr.out).mono ?_
     rintro e w3 ⟨rfl, hb3⟩
     obtain ⟨v0, v1⟩ := szN_bd T.dec k d
     have HS2 : Hid (szN T.dec (k + 1) c = if 18 < m + szN T.dec k d then 19 else szL (szN T.dec k) (m + szN T.dec k d) (l.drop (j + 1))) := HS
     clear HS
     generalize szN T.dec k d = v at *
     by_cases hv : 18 < m + v
     ·have HF : Hid (szN T.dec (k + 1) c = 19) := Lib.hid (by rw [HS2.out, if_pos hv])
      clear HS2
      go_wp2
      go_ret
      exact ⟨ret_int HF.out.symm, hb0r.trans' hb3⟩
     ·have HF := hid_trans HS2 (if_neg hv)
      clear HS2
      go_wp2
      go_roundw
      case rel => exact ⟨j + 1, m + v, by omega, by go_num, by go_num, by omega, by omega, HF, hbr.trans' hb3⟩
      case measure => simp [intOf]; omega
    ·have HF2 := hid_trans HR (show _ = m from by rw [drop_all l j (by omega)]; rfl)
     clear HR HF
     go_wp2
     go_ret
     exact ⟨ret_int HF2.out.symm, hb0r⟩
end Go.Proofs.YtbdabjhankgcmaaGreatDoor
