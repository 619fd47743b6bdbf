/- Walks: rules 6, 7 and 9. -/
import Derived.Test.YtgfdecfcbnnemaaDoorWh
namespace Go.Proofs.YtgfdecfcbnnemaaDoor
open Go.RowKit

set_option maxHeartbeats 1600000 in
set_option maxRecDepth 100000 in
theorem excluded_spec (t : TV) (T : Tbl) (w : World) (ht : TblS w t T) (hs : Srt T) (hn : NonEs T) :
    Calls Tryd.prog 70 #[t.v] w fun e w' => e = .returned (.bool (excludedB T)) ∧ Ext w w' := by
  have HB : Hid (excludedB T = excL T.dec T.exc) := rfl
  obtain ⟨s0, s1, s2, s3, s4, s5, s6, s7, s8, ⟨A9, n9, c9⟩, ⟨A, n, cc⟩, s11⟩ := t
  have hx : IntS w ⟨A, n, cc⟩ T.exc := ht.exc
  have hd : MapS w ⟨A9, n9, c9⟩ T.dec := ht.dec
  clear ht
  generalize T.exc = l at *
  obtain ⟨hl, _, _⟩ := hx.len
  subst hl
  have hba : Ext w (w.alloc (.cells #[.slice s0.a s0.n s0.c, .slice s1.a s1.n s1.c, .slice s2.a s2.n s2.c, .slice s3.a s3.n s3.c, .slice s4.a s4.n s4.c, .slice s5.a s5.n s5.c, .slice s6.a s6.n s6.c, .slice s7.a s7.n s7.c, .slice s8.a s8.n s8.c, .slice A9 n9 c9, .slice A l.length cc, .slice s11.a s11.n s11.c] 26)) := (Ext.refl _).alloc_ _
  go_enter Tryd.func70, Tryd.ntmps70
  go_wp2_with fail
  go_loopw [8] (fun i wr => ∃ (k : Nat), k ≤ l.length ∧ i = .int .i64 k ∧ Hid (excludedB T = excL T.dec (l.drop k)) ∧
    Ext (w.alloc (.cells #[.slice s0.a s0.n s0.c, .slice s1.a s1.n s1.c, .slice s2.a s2.n s2.c, .slice s3.a s3.n s3.c, .slice s4.a s4.n s4.c, .slice s5.a s5.n s5.c, .slice s6.a s6.n s6.c, .slice s7.a s7.n s7.c, .slice s8.a s8.n s8.c, .slice A9 n9 c9, .slice A l.length cc, .slice s11.a s11.n s11.c] 26)) wr) (fun i _ => l.length - (intOf i).toNat)
  case atStart => exact ⟨0, Nat.zero_le _, rfl, HB, Ext.refl _⟩
  case round =>
    obtain ⟨k, hk, rfl, HR, hbr⟩ := hrel
    have hb0r := hba.trans' hbr
    by_cases hlt : k < l.length
    · obtain ⟨b, o, ha, h0⟩ := (hx.ext hb0r).at_ hlt
      subst ha
      have HD : Hid (l.drop k = l[k] :: l.drop (k + 1)) := drop_at l k hlt
      generalize l[k] = x at *
      have hbx := box_at hbr
      have hzx : w.heap.size < wr.heap.size := by have := hbr.b.size; simp at this; omega
      have HS := hid_trans HR (show _ = (!(mpFind T.dec x).isEmpty && excL T.dec (l.drop (k + 1))) from by rw [HD.out]; rfl)
      clear HR HD HB
      go_wp2_with fail
      refine (find_spec T.dec _ _ _ x _ (hd.ext hb0r) hs.dec.1 hn.dec hs.dec.2).mono ?_
      rintro e w1 ⟨za, zn, zc, rfl, hz, hnil, hb1⟩
      rcases find_cases hz hnil with ⟨he, rfl, rfl, rfl⟩ | ⟨b', o', he, rfl⟩
      · have HF := hid_trans HS (show _ = false from by rw [he]; rfl)
        clear HS he hz hnil
        go_wp2
        go_ret
        exact ⟨ret_bool HF.out.symm, hb0r.trans' hb1⟩
      · have HF := hid_trans HS (show _ = excL T.dec (l.drop (k + 1)) from by simp [he])
        clear HS he hz hnil
        go_wp2
        go_roundw
        case rel => exact ⟨k + 1, by omega, by go_num, HF, hbr.trans' hb1⟩
        case measure => simp [intOf]; omega
    · have HF := hid_trans HR (show _ = true from by rw [drop_all l k (by omega)]; rfl)
      clear HR HB
      go_wp2
      go_ret
      exact ⟨ret_bool HF.out.symm, hb0r⟩

set_option maxHeartbeats 1600000 in
set_option maxRecDepth 100000 in
theorem decomposed_spec (t : TV) (T : Tbl) (w : World) (ht : TblS w t T) (hs : Srt T) (hn : NonEs T) :
    Calls Tryd.prog 69 #[t.v] w fun e w' => e = .returned (.bool (decomposedB T)) ∧ Ext w w' := by
  have HB : Hid (decomposedB T = (decL T.dec && sizesL T.dec (T.dec.length + 1) T.dec)) := rfl
  obtain ⟨s0, s1, s2, s3, s4, s5, s6, s7, s8, ⟨A, n, cc⟩, s10, s11⟩ := t
  have hx : MapS w ⟨A, n, cc⟩ T.dec := ht.dec
  obtain ⟨Q, hQ⟩ : ∃ q, q = sizesL T.dec (T.dec.length + 1) := ⟨_, rfl⟩
  rw [← hQ] at HB
  have HQ := Lib.hid hQ
  clear hQ
  obtain ⟨l, hl0⟩ : ∃ l, l = T.dec := ⟨_, rfl⟩
  rw [← hl0] at HB hx
  have HL := Lib.hid hl0
  clear hl0
  obtain ⟨hl, _, _⟩ := hx.len
  subst hl
  have hba : Ext w (w.alloc (.cells #[.slice s0.a s0.n s0.c, .slice s1.a s1.n s1.c, .slice s2.a s2.n s2.c, .slice s3.a s3.n s3.c, .slice s4.a s4.n s4.c, .slice s5.a s5.n s5.c, .slice s6.a s6.n s6.c, .slice s7.a s7.n s7.c, .slice s8.a s8.n s8.c, .slice A l.length cc, .slice s10.a s10.n s10.c, .slice s11.a s11.n s11.c] 26)) := (Ext.refl _).alloc_ _
  go_enter Tryd.func69, Tryd.ntmps69
  go_wp2_with fail
  go_loopw [12] (fun i wr => ∃ (k : Nat), k ≤ l.length ∧ i = .int .i64 k ∧ Hid (decomposedB T = (decL (l.drop k) && Q l)) ∧
    Ext (w.alloc (.cells #[.slice s0.a s0.n s0.c, .slice s1.a s1.n s1.c, .slice s2.a s2.n s2.c, .slice s3.a s3.n s3.c, .slice s4.a s4.n s4.c, .slice s5.a s5.n s5.c, .slice s6.a s6.n s6.c, .slice s7.a s7.n s7.c, .slice s8.a s8.n s8.c, .slice A l.length cc, .slice s10.a s10.n s10.c, .slice s11.a s11.n s11.c] 26)) wr) (fun i _ => l.length - (intOf i).toNat)
  case atStart => exact ⟨0, Nat.zero_le _, rfl, HB, Ext.refl _⟩
  case round =>
    obtain ⟨k, hk, rfl, HR, hbr⟩ := hrel
    have hb0r := hba.trans' hbr
    by_cases hlt : k < l.length
    · obtain ⟨b, o, za, zn, zc, ha, h0, h1, h2⟩ := (hx.ext hb0r).at_ hlt
      subst ha
      have HD : Hid (l.drop k = l[k] :: l.drop (k + 1)) := drop_at l k hlt
      generalize l[k] = x at *
      obtain ⟨xl, xt⟩ := x
      simp only at h0 h1 h2
      obtain ⟨hzn, _, _⟩ := h2.len
      subst hzn
      have hba2 : Ext wr (wr.alloc (.cells #[.int .i64 xl, .slice za xt.length zc] 58)) := (Ext.refl _).alloc_ _
      have h22 := h2.ext hba2
      have HS := hid_trans HR (show _ = (!decide (2 < (xt.length : Int)) && (decTo xt && (decL (l.drop (k + 1)) && Q l))) from by rw [HD.out]; simp [decL, Bool.and_assoc])
      clear HR HD HB h2
      by_cases hlen : 2 < xt.length
      · have HF := hid_trans HS (show _ = false from by simp; intros; omega)
        clear HS
        go_wp2
        go_ret
        exact ⟨ret_bool HF.out.symm, hb0r.alloc_ _⟩
      · have HS2 := hid_trans HS (show _ = (decTo xt && (decL (l.drop (k + 1)) && Q l)) from by simp; intros; omega)
        clear HS
        obtain ⟨wo, rfl⟩ : ∃ wo : World, wo = wr := ⟨_, rfl⟩
        go_wp2_with fail
        go_loopw [23] (fun i wi => ∃ (j : Nat), j ≤ xt.length ∧ i = .int .i64 j ∧ Hid (decomposedB T = (decTo (xt.drop j) && (decL (l.drop (k + 1)) && Q l))) ∧ wo.alloc (.cells #[.int .i64 xl, .slice za xt.length zc] 58) = wi) (fun i _ => xt.length - (intOf i).toNat)
        case atStart => exact ⟨0, Nat.zero_le _, rfl, HS2, rfl⟩
        case round =>
          obtain ⟨j, hj, rfl, HI, rfl⟩ := hrel
          by_cases hltj : j < xt.length
          · obtain ⟨b5, o5, ha, g5⟩ := h22.at_ hltj
            subst ha
            have HJ : Hid (xt.drop j = xt[j] :: xt.drop (j + 1)) := drop_at xt j hltj
            generalize xt[j] = z at *
            have HZ := hid_trans HI (show _ = (!((z == 46) || syllB z || jamoB z) && (decTo (xt.drop (j + 1)) && (decL (l.drop (k + 1)) && Q l))) from by rw [HJ.out]; simp only [decTo, Bool.and_assoc]; rfl)
            clear HI HJ HS2
            cases hz : (z == 46)
            · go_wp2_with (first
                | (go_at_call 84; refine (syllable_spec _ _).mono ?_; rintro e w' ⟨rfl, rfl⟩; cases hz1 : syllB z)
                | (go_at_call 85; refine (jamo_spec _ _).mono ?_; rintro e w' ⟨rfl, rfl⟩; cases hz2 : jamoB z))
              all_goals first
                | (go_ret; exact ⟨ret_bool (by rw [HZ.out]; simp [*]), hb0r.alloc_ _⟩)
                | (go_roundw
                   case rel => exact ⟨j + 1, by omega, by go_num, hid_trans HZ (by simp [*]), by trivial⟩
                   case measure => simp [intOf]; omega)
            · have HF := hid_trans HZ (show _ = false from by rw [hz]; rfl)
              clear HZ
              go_wp2_with fail
              go_ret
              exact ⟨ret_bool HF.out.symm, hb0r.alloc_ _⟩
          · have HF := hid_trans HI (show _ = (decL (l.drop (k + 1)) && Q l) from by rw [drop_all xt j (by omega)]; rfl)
            clear HI HS2
            go_wp2_with fail
            go_roundw
            case rel => exact ⟨k + 1, by omega, by go_num, HF, hbr.alloc_ _⟩
            case measure => simp [intOf]; omega
    · have HF := hid_trans HR (show _ = sizesL T.dec (T.dec.length + 1) l from by rw [drop_all l k (by omega), HQ.out]; rfl)
      clear HR HB HQ
      have hbx := box_at hbr
      have hzx : w.heap.size < wr.heap.size := by have := hbr.b.size; simp at this; omega
      obtain ⟨wo, rfl⟩ : ∃ wo : World, wo = wr := ⟨_, rfl⟩
      go_wp2_with fail
      go_loopw [42] (fun i wi => ∃ (j : Nat), j ≤ l.length ∧ i = .int .i64 j ∧ Hid (decomposedB T = sizesL T.dec (T.dec.length + 1) (l.drop j)) ∧ Ext wo wi) (fun i _ => l.length - (intOf i).toNat)
      case atStart => exact ⟨0, Nat.zero_le _, rfl, HF, Ext.refl _⟩
      case round =>
        obtain ⟨j, hj, rfl, HI, hbi⟩ := hrel
        have hb0i := hb0r.trans' hbi
        by_cases hltj : j < l.length
        · obtain ⟨b, o, za, zn, zc, ha, h0, h1, h2⟩ := (hx.ext hb0i).at_ hltj
          subst ha
          have HD : Hid (l.drop j = l[j] :: l.drop (j + 1)) := drop_at l j hltj
          generalize l[j] = x at *
          obtain ⟨xl, xt⟩ := x
          simp only at h0 h1 h2
          have hbx2 := box_at (hbr.trans' hbi)
          have hzx2 : w.heap.size < wr.heap.size := by have := hbi.b.size; omega
          have hti := Lib.hid (ht.ext_ (hb0i.alloc_ (.cells #[.int .i64 xl, .slice za zn zc] 58)))
          have HS := hid_trans HI (show _ = (!decide (18 < szN T.dec (T.dec.length + 1) xl) && sizesL T.dec (T.dec.length + 1) (l.drop (j + 1))) from by rw [HD.out]; rfl)
          have HK : Hid ((0 : Int) + ((T.dec.length + 1 : Nat) : Int) = T.dec.length + 1) := Lib.hid (by omega)
          clear hbx HI HD HF h2
          go_wp2_with fail
          refine (size_spec T hs hn (T.dec.length + 1) _ xl 0 _ HK.out (by omega) hti.out).mono ?_
          rintro e w3 ⟨rfl, hb3⟩
          generalize szN T.dec (T.dec.length + 1) xl = v at *
          have hbi3 := (hbi.alloc_ (.cells #[.int .i64 xl, .slice za zn zc] 58)).trans' hb3
          by_cases hv : 18 < v
          · have HF := hid_trans HS (show _ = false from by simp [hv])
            clear HS
            go_wp2
            go_ret
            exact ⟨ret_bool HF.out.symm, hb0r.trans' hbi3⟩
          · have HF := hid_trans HS (show _ = sizesL T.dec (T.dec.length + 1) (l.drop (j + 1)) from by simp; intros; omega)
            clear HS
            go_wp2
            go_roundw
            case rel => exact ⟨j + 1, by omega, by go_num, HF, hbi3⟩
            case measure => simp [intOf]; omega
        · have HF2 := hid_trans HI (show _ = true from by rw [drop_all l j (by omega)]; rfl)
          clear HI HF
          go_wp2
          go_ret
          exact ⟨ret_bool HF2.out.symm, hb0i⟩
end Go.Proofs.YtgfdecfcbnnemaaDoor
