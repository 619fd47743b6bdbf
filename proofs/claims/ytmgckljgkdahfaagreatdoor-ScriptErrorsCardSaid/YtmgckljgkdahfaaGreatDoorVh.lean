/- Walk of the reference: rule 6. -/
import Derived.Test.YtmgckljgkdahfaaGreatDoorVg
namespace Go.Proofs.YtmgckljgkdahfaaGreatDoor
open Go.RowKit

set_option maxHeartbeats 1600000 in
set_option maxRecDepth 100000 in
theorem rfinite_spec (t : TV) (T : Tbl) (w : World) (ht : TblS w t T) (hlen : T.dec.length ≤ 256) (hto : ∀ x, (mpFind T.dec x).length ≤ 18) :
    Calls Tryz.prog 122 #[t.v] w fun e w' => e = .returned (.bool (decomposedB T)) ∧ Ext w w' := by
  have HB : Hid (decomposedB T = (decL T.dec && sizesL T.dec (T.dec.length + 1) T.dec)) := rfl
  obtain ⟨s0, s1, s2, s3, s4, s5, s6, s7, s8, ⟨A, n, cc⟩, s10, s11⟩ := t
  have hx : MapS w ⟨A, n, cc⟩ T.dec := ht.dec
  obtain ⟨Q, hQ⟩ : ∃ q : List Mp → Bool, q = fun L => L.all fun m => (fullT T.dec m.lo).2 := ⟨_, rfl⟩
  have HB : Hid (decomposedB T = (decL T.dec && Q T.dec)) := Lib.hid (by rw [HB.out, sizes_full hlen, hQ])
  have HTO := Lib.hid hto
  have HQ := Lib.hid hQ
  have hQl : decomposedB T = (decL T.dec && Q T.dec) := HB.out
  clear hQ hQl
  obtain ⟨l, hl0⟩ : ∃ l, l = T.dec := ⟨_, rfl⟩
  rw [← hl0] at HB hx
  have HL := Lib.hid hl0
  clear hl0
  obtain ⟨hl, _, _⟩ := hx.len
  subst hl
  have hba : Ext w (w.alloc (.cells #[.slice s0.a s0.n s0.c, .slice s1.a s1.n s1.c, .slice s2.a s2.n s2.c, .slice s3.a s3.n s3.c, .slice s4.a s4.n s4.c, .slice s5.a s5.n s5.c, .slice s6.a s6.n s6.c, .slice s7.a s7.n s7.c, .slice s8.a s8.n s8.c, .slice A l.length cc, .slice s10.a s10.n s10.c, .slice s11.a s11.n s11.c] 26)) := (Ext.refl _).alloc_ _
  go_enter Tryz.func122, Tryz.ntmps122
  go_wp2_with fail
  go_loopw [14] (fun i wr => ∃ (k : Nat), k ≤ l.length ∧ i = .int .i64 k ∧ Hid (decomposedB T = (decL (l.drop k) && Q l)) ∧
    Ext (w.alloc (.cells #[.slice s0.a s0.n s0.c, .slice s1.a s1.n s1.c, .slice s2.a s2.n s2.c, .slice s3.a s3.n s3.c, .slice s4.a s4.n s4.c, .slice s5.a s5.n s5.c, .slice s6.a s6.n s6.c, .slice s7.a s7.n s7.c, .slice s8.a s8.n s8.c, .slice A l.length cc, .slice s10.a s10.n s10.c, .slice s11.a s11.n s11.c] 26)) wr) (fun i _ => l.length - (intOf i).toNat)
  case atStart => exact ⟨0, Nat.zero_le _, rfl, HB, Ext.refl _⟩
  case round =>
    obtain ⟨k, hk, rfl, HR, hbr⟩ := hrel
    have hb0r := hba.trans' hbr
    by_cases hlt : k < l.length
    · obtain ⟨b, o, za, zn, zc, ha, h0, h1, h2⟩ := (hx.ext hb0r).at_ hlt
      subst ha
      have HD : Hid (l.drop k = l[k] :: l.drop (k + 1)) := drop_at l k hlt
      generalize l[k] = x at *
      obtain ⟨xl, xt⟩ := x
      simp only at h0 h1 h2
      obtain ⟨hzn, _, _⟩ := h2.len
      subst hzn
      have hba2 : Ext wr (wr.alloc (.cells #[.int .i64 xl, .slice za xt.length zc] 61)) := (Ext.refl _).alloc_ _
      have h22 := h2.ext hba2
      have HS := hid_trans HR (show _ = (!decide (2 < (xt.length : Int)) && (decTo xt && (decL (l.drop (k + 1)) && Q l))) from by rw [HD.out]; simp [decL, Bool.and_assoc])
      clear HR HD HB h2
      by_cases hlen : 2 < xt.length
      · have HF := hid_trans HS (show _ = false from by simp; intros; omega)
        clear HS
        go_wp2
        go_ret
        exact ⟨ret_bool HF.out.symm, hb0r.alloc_ _⟩
      · have HS2 := hid_trans HS (show _ = (decTo xt && (decL (l.drop (k + 1)) && Q l)) from by simp; intros; omega)
        clear HS
        obtain ⟨wo, rfl⟩ : ∃ wo : World, wo = wr := ⟨_, rfl⟩
        go_wp2_with fail
        go_loopw [25] (fun i wi => ∃ (j : Nat), j ≤ xt.length ∧ i = .int .i64 j ∧ Hid (decomposedB T = (decTo (xt.drop j) && (decL (l.drop (k + 1)) && Q l))) ∧ wo.alloc (.cells #[.int .i64 xl, .slice za xt.length zc] 61) = wi) (fun i _ => xt.length - (intOf i).toNat)
        case atStart => exact ⟨0, Nat.zero_le _, rfl, HS2, rfl⟩
        case round =>
          obtain ⟨j, hj, rfl, HI, rfl⟩ := hrel
          by_cases hltj : j < xt.length
          · obtain ⟨b5, o5, ha, g5⟩ := h22.at_ hltj
            subst ha
            have HJ : Hid (xt.drop j = xt[j] :: xt.drop (j + 1)) := drop_at xt j hltj
            generalize xt[j] = z at *
            have HZ := hid_trans HI (show _ = (!((z == 46) || syllB z || jamoB z) && (decTo (xt.drop (j + 1)) && (decL (l.drop (k + 1)) && Q l))) from by rw [HJ.out]; simp only [decTo, Bool.and_assoc]; rfl)
            clear HI HJ HS2
            cases hz : (z == 46)
            · go_wp2_with (first
                | (go_at_call 98; refine (rsyll_spec _ _).mono ?_; rintro e w' ⟨rfl, rfl⟩; cases hz1 : syllB z)
                | (go_at_call 99; refine (rjamo_spec _ _).mono ?_; rintro e w' ⟨rfl, rfl⟩; cases hz2 : jamoB z))
              all_goals first
                | (go_ret; exact ⟨ret_bool (by rw [HZ.out]; simp [*]), hb0r.alloc_ _⟩)
                | (go_roundw
                   case rel => exact ⟨j + 1, by omega, by go_num, hid_trans HZ (by simp [*]), by trivial⟩
                   case measure => simp [intOf]; omega)
            · have HF := hid_trans HZ (show _ = false from by rw [hz]; rfl)
              clear HZ
              go_wp2_with fail
              go_ret
              exact ⟨ret_bool HF.out.symm, hb0r.alloc_ _⟩
          · have HF := hid_trans HI (show _ = (decL (l.drop (k + 1)) && Q l) from by rw [drop_all xt j (by omega)]; rfl)
            clear HI HS2
            go_wp2_with fail
            go_roundw
            case rel => exact ⟨k + 1, by omega, by go_num, HF, hbr.alloc_ _⟩
            case measure => simp [intOf]; omega
    · have HF := hid_trans HR (show _ = Q l from by rw [drop_all l k (by omega)]; rfl)
      clear HR HB
      have hbx := box_at hbr
      have hzx : w.heap.size < wr.heap.size := by have := hbr.b.size; simp at this; omega
      obtain ⟨wo, rfl⟩ : ∃ wo : World, wo = wr := ⟨_, rfl⟩
      go_wp2_with fail
      go_loopw [44] (fun i wi => ∃ (j : Nat), j ≤ l.length ∧ i = .int .i64 j ∧ Hid (decomposedB T = Q (l.drop j)) ∧ Ext wo wi) (fun i _ => l.length - (intOf i).toNat)
      case atStart => exact ⟨0, Nat.zero_le _, rfl, HF, Ext.refl _⟩
      case round =>
        obtain ⟨j, hj, rfl, HI, hbi⟩ := hrel
        have hb0i := hb0r.trans' hbi
        by_cases hltj : j < l.length
        · obtain ⟨b, o, za, zn, zc, ha, h0, h1, h2⟩ := (hx.ext hb0i).at_ hltj
          subst ha
          have HD : Hid (l.drop j = l[j] :: l.drop (j + 1)) := drop_at l j hltj
          generalize l[j] = x at *
          obtain ⟨xl, xt⟩ := x
          simp only at h0 h1 h2
          have hbx2 := box_at (hbr.trans' hbi)
          have hzx2 : w.heap.size < wr.heap.size := by have := hbi.b.size; omega
          have hti := Lib.hid (ht.ext_ (hb0i.alloc_ (.cells #[.int .i64 xl, .slice za zn zc] 61)))
          have HS := hid_trans HI (show _ = ((fullT T.dec xl).2 && Q (l.drop (j + 1))) from by rw [HD.out, HQ.out]; rfl)
          clear hbx HI HD HF h2
          go_wp2_with fail
          refine (rfull_spec _ T xl _ hti.out HTO.out).mono ?_
          rintro e w3 ⟨A3, n3, c3, rfl, _, hb3⟩
          have hbi3 := (hbi.alloc_ (.cells #[.int .i64 xl, .slice za zn zc] 61)).trans' hb3
          cases hv : (fullT T.dec xl).2
          · have HF := hid_trans HS (show _ = false from by rw [hv]; rfl)
            clear HS hv
            go_wp2_with fail
            go_ret
            exact ⟨ret_bool HF.out.symm, hb0r.trans' hbi3⟩
          · have HF := hid_trans HS (show _ = Q (l.drop (j + 1)) from by rw [hv]; rfl)
            clear HS hv
            go_wp2_with fail
            go_roundw
            case rel => exact ⟨j + 1, by omega, by go_num, HF, hbi3⟩
            case measure => simp [intOf]; omega
        · have HF2 := hid_trans HI (show _ = true from by rw [drop_all l j (by omega), HQ.out]; rfl)
          clear HI HF
          go_wp2
          go_ret
          exact ⟨ret_bool HF2.out.symm, hb0i⟩
end Go.Proofs.YtmgckljgkdahfaaGreatDoor
