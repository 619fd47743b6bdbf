/- Walks: rule 3 and rule 4. -/
import Derived.Test.YtgfdecfcbnnemaaDoorWd
namespace Go.Proofs.YtgfdecfcbnnemaaDoor
open Go.RowKit

set_option maxHeartbeats 800000 in
set_option maxRecDepth 100000 in
theorem values_spec (t : TV) (T : Tbl) (w : World) (ht : TblS w t T) :
    Calls Tryd.prog 66 #[t.v] w fun e w' => e = .returned (.bool (valuesB T)) ∧ Ext w w' := by
  have HB : Hid (valuesB T = valuesC (cols T)) := rfl
  have hl7 : (cols T).length = 7 := rfl
  have hba : Ext w (w.alloc (.cells t.v.cells 26)) := (Ext.refl _).alloc_ _
  go_enter Tryd.func66, Tryd.ntmps66
  go_wp2_with fail
  refine (columns_spec t T _ (ht.ext_ hba)).mono ?_
  rintro e w1 ⟨b1, rfl, hcol, hb1⟩
  have hb01 := hba.trans' hb1
  generalize cols T = cl at *
  have HL7 := Lib.hid hl7
  clear hl7
  go_wp2_with fail
  go_loopw [10] (fun i wr => ∃ (k : Nat), k ≤ 7 ∧ i = .int .i64 k ∧ Hid (valuesB T = valuesC (cl.drop k)) ∧ Ext w1 wr) (fun i _ => 7 - (intOf i).toNat)
  case atStart => exact ⟨0, Nat.zero_le _, rfl, HB, Ext.refl _⟩
  case round =>
    obtain ⟨k, hk, rfl, HR, hbr⟩ := hrel
    by_cases hlt : k < 7
    · have hlt' : k < cl.length := by rw [HL7.out]; exact hlt
      obtain ⟨b, o, za, zn, zc, ha, h0, h1, h2, h3⟩ := (hcol.ext hbr).at_ hlt'
      injection ha with ha
      injection ha with hbb hoo
      subst hbb hoo
      have HD : Hid (cl.drop k = cl[k] :: cl.drop (k + 1)) := drop_at cl k hlt'
      generalize cl[k] = x at *
      obtain ⟨xl, x1, x2⟩ := x
      simp only [Nat.zero_add] at h0 h1 h2 h3
      obtain ⟨hzn, _, _⟩ := h3.len
      subst hzn
      have hba2 : Ext wr (wr.alloc (.cells #[.slice za xl.length zc, .int .i64 x1, .int .i64 x2] 85)) := (Ext.refl _).alloc_ _
      have HR2 := hid_trans HR (show _ = (valuesL x1 x2 xl && valuesC (cl.drop (k + 1))) from by rw [HD.out]; rfl)
      clear HR HD
      obtain ⟨wo, rfl⟩ : ∃ wo : World, wo = wr := ⟨_, rfl⟩
      go_wp2_with fail
      go_loopw [17] (fun i wi => ∃ (j : Nat), j ≤ xl.length ∧ i = .int .i64 j ∧ Hid (valuesB T = (valuesL x1 x2 (xl.drop j) && valuesC (cl.drop (k + 1)))) ∧ Ext (wo.alloc (.cells #[.slice za xl.length zc, .int .i64 x1, .int .i64 x2] 85)) wi) (fun i _ => xl.length - (intOf i).toNat)
      case atStart => exact ⟨0, Nat.zero_le _, rfl, HR2, Ext.refl _⟩
      case round =>
        obtain ⟨j, hj, rfl, HI, hbi⟩ := hrel
        have hbx := box_at hbi
        have hzx : wo.heap.size < wr.heap.size := by have := hbi.b.size; simp at this; omega
        have hb1i := hbr.trans' (hba2.trans' hbi)
        by_cases hltj : j < xl.length
        · obtain ⟨bb, oo, ha, g0, g1, g2⟩ := (h3.ext (hba2.trans' hbi)).at_ hltj
          subst ha
          have HJ : Hid (xl.drop j = xl[j] :: xl.drop (j + 1)) := drop_at xl j hltj
          generalize xl[j] = y at *
          obtain ⟨yl, yh, yv⟩ := y
          simp only at g0 g1 g2
          clear h0 h1 h2
          have HS : ∀ v, valuesL x1 x2 (⟨yl, yh, yv⟩ :: xl.drop (j + 1)) = v → Hid (valuesB T = (v && valuesC (cl.drop (k + 1)))) := fun v hv => by
            rw [← hv, ← HJ.out]; exact HI
          clear HI HJ HR2 HB
          go_wp2
          all_goals first
            | (go_ret; exact ⟨ret_bool (by rw [(HS false (by simp [valuesL]; first | omega | (intros; omega))).out]; rfl), hb01.trans' (hb1i.alloc_ _)⟩)
            | (go_roundw
               case rel => exact ⟨j + 1, by omega, by go_num, HS _ (by simp [valuesL]; intros; omega), hbi.alloc_ _⟩
               case measure => simp [intOf]; omega)
        · have HF := hid_trans HI (show _ = valuesC (cl.drop (k + 1)) from by rw [drop_all xl j (by omega)]; simp [valuesL])
          clear HI HR2 h0 h1 h2
          go_wp2
          go_roundw
          case rel => exact ⟨k + 1, by omega, by go_num, HF, hb1i⟩
          case measure => simp [intOf]; omega
    · have HF := hid_trans HR (show _ = true from by rw [drop_all cl k (by rw [HL7.out]; omega)]; simp [valuesC])
      clear HR
      go_wp2
      go_ret
      exact ⟨ret_bool HF.out.symm, hb01.trans' hbr⟩
end Go.Proofs.YtgfdecfcbnnemaaDoor
