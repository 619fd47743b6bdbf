/- Walks: scripts and rule 4. -/
import Derived.Test.YtgfdecfcbnnemaaDoorWd
namespace Go.Proofs.YtgfdecfcbnnemaaDoor
open Go.RowKit

set_option maxHeartbeats 800000 in
set_option maxRecDepth 100000 in
theorem scripts_spec (l : List Int) (A : Option Addr) (n c : Nat) (w : World) (h : IntS w ⟨A, n, c⟩ l) :
    Calls Tryd.prog 82 #[.slice A n c] w fun e w' => e = .returned (.bool (scriptsGo 2 l)) ∧ w = w' := by
  obtain ⟨hn, hnc, hcm⟩ := h.len
  subst hn
  go_enter Tryd.func82, Tryd.ntmps82
  go_wp2_with fail
  go_loopw [7] (fun i wr => ∃ (k : Nat) (prev : Int), k ≤ l.length ∧ i = .int .i64 k ∧ Hid (scriptsGo 2 l = scriptsGo prev (l.drop k)) ∧ (k = 0 → prev = 2) ∧ (∀ hk : k ≤ l.length, ∀ h0 : 0 < k, l[k - 1] = prev) ∧ w = wr) (fun i _ => l.length - (intOf i).toNat)
  case atStart => exact ⟨0, 2, Nat.zero_le _, rfl, rfl, fun _ => rfl, fun _ h => absurd h (by omega), rfl⟩
  case round =>
    obtain ⟨k, prev, hk, rfl, HR, hp0, hp1, rfl⟩ := hrel
    by_cases hlt : k < l.length
    · obtain ⟨b, o, ha, hx⟩ := h.at_ hlt
      have HP1 := Lib.hid hp1
      have HP0 := Lib.hid hp0
      clear hp0 hp1
      have HD : Hid (l.drop k = l[k] :: l.drop (k + 1)) := drop_at l k hlt
      obtain ⟨x, hxe⟩ : ∃ x, l[k] = x := ⟨_, rfl⟩
      rw [hxe] at hx HD
      have HX : Hid (l[k] = x) := hxe
      clear hxe
      by_cases hk0 : k = 0
      · obtain rfl : prev = 2 := HP0.out hk0
        subst hk0
        subst ha
        have HS : ∀ v, scriptsGo 2 (x :: l.drop 1) = v → Hid (scriptsGo 2 l = v) := fun v hv => Lib.hid (by rw [HR.out, HD.out, hv])
        have HS' := Lib.hid HS
        clear HS HR HD HP0 HP1
        simp only [Nat.add_zero] at hx
        go_wp2
        all_goals first
          | (go_ret; exact ⟨ret_bool (HS'.out false (by simp [scriptsGo]; first | omega | (intros; omega))).out.symm, rfl⟩)
          | (go_roundw
             case rel => exact ⟨1, x, by omega, by go_num, HS'.out _ (by simp [scriptsGo]; intros; omega), fun h => absurd h (by omega), fun _ _ => by simpa using HX.out, by trivial⟩
             case measure => simp [intOf]; omega)
      · obtain ⟨b', o', ha', hx'⟩ := h.at_ (i := k - 1) (by omega)
        rw [ha] at ha'
        injection ha' with ha'
        injection ha' with e1 e2
        subst e1 e2
        subst ha
        rw [HP1.out hk (by omega)] at hx'
        have HS : ∀ v, scriptsGo prev (x :: l.drop (k + 1)) = v → Hid (scriptsGo 2 l = v) := fun v hv => Lib.hid (by rw [HR.out, HD.out, hv])
        have HS' := Lib.hid HS
        clear HS HR HD HP0 HP1
        obtain ⟨m, rfl⟩ : ∃ m, k = m + 1 := ⟨k - 1, by omega⟩
        simp only [Nat.add_sub_cancel] at hx'
        have hi0 : (0 : Int) ≤ (m : Int) := Int.natCast_nonneg _
        go_wp2
        all_goals first
          | (go_ret; exact ⟨ret_bool (HS'.out false (by simp [scriptsGo]; first | omega | (intros; omega))).out.symm, rfl⟩)
          | (go_roundw
             case rel => exact ⟨m + 1 + 1, x, by omega, by go_num, HS'.out _ (by simp [scriptsGo]; intros; omega), fun h => absurd h (by omega), fun _ _ => by simpa using HX.out, by trivial⟩
             case measure => simp [intOf]; omega)
    · have HF := hid_trans HR (show _ = true from by rw [drop_all l k (by omega)]; simp [scriptsGo])
      clear HR
      go_wp2
      go_ret
      exact ⟨ret_bool HF.out.symm, rfl⟩

set_option maxHeartbeats 1600000 in
set_option maxRecDepth 100000 in
theorem targets_spec (t : TV) (T : Tbl) (w : World) (ht : TblS w t T) :
    Calls Tryd.prog 67 #[t.v] w fun e w' => e = .returned (.bool (targetsB T)) ∧ Ext w w' := by
  have HB : Hid (targetsB T = targetsM ((0 : Nat) : Int) (maps T)) := rfl
  have hl4 : (maps T).length = 4 := rfl
  have hba : Ext w (w.alloc (.cells t.v.cells 26)) := (Ext.refl _).alloc_ _
  go_enter Tryd.func67, Tryd.ntmps67
  go_wp2_with fail
  refine (mappings_spec t T _ (ht.ext_ hba)).mono ?_
  rintro e w1 ⟨b1, rfl, hmap, hb1⟩
  have hb01 := hba.trans' hb1
  generalize maps T = ml at *
  have HL4 := Lib.hid hl4
  clear hl4
  go_wp2_with fail
  go_loopw [12] (fun i wr => ∃ (k : Nat), k ≤ 4 ∧ i = .int .i64 k ∧ Hid (targetsB T = targetsM (k : Int) (ml.drop k)) ∧ Ext w1 wr) (fun i _ => 4 - (intOf i).toNat)
  case atStart => exact ⟨0, Nat.zero_le _, rfl, HB, Ext.refl _⟩
  case round =>
    obtain ⟨k, hk, rfl, HR, hbr⟩ := hrel
    by_cases hlt : k < 4
    · have hlt' : k < ml.length := by rw [HL4.out]; exact hlt
      obtain ⟨b, o, za, zn, zc, ha, h0, h1⟩ := (hmap.ext hbr).at_ hlt'
      injection ha with ha
      injection ha with hbb hoo
      subst hbb hoo
      have HD : Hid (ml.drop k = ml[k] :: ml.drop (k + 1)) := drop_at ml k hlt'
      generalize ml[k] = x at *
      simp only [Nat.zero_add] at h0
      obtain ⟨hzn, _, _⟩ := h1.len
      subst hzn
      have HR2 := hid_trans HR (show _ = (targetsL k x && targetsM ((k + 1 : Nat) : Int) (ml.drop (k + 1))) from by rw [HD.out]; simp [targetsM])
      clear HR HD HB
      obtain ⟨wo, rfl⟩ : ∃ wo : World, wo = wr := ⟨_, rfl⟩
      go_wp2_with fail
      go_loopw [19] (fun i wi => ∃ (j : Nat), j ≤ x.length ∧ i = .int .i64 j ∧ Hid (targetsB T = (targetsL k (x.drop j) && targetsM ((k + 1 : Nat) : Int) (ml.drop (k + 1)))) ∧ Ext wo wi) (fun i _ => x.length - (intOf i).toNat)
      case atStart => exact ⟨0, Nat.zero_le _, rfl, HR2, Ext.refl _⟩
      case round =>
        obtain ⟨j, hj, rfl, HI, hbi⟩ := hrel
        have hb1i := hbr.trans' hbi
        by_cases hltj : j < x.length
        · obtain ⟨bb, oo, ya, yn, yc, ha, g0, g1, g2⟩ := (h1.ext hbi).at_ hltj
          subst ha
          have HJ : Hid (x.drop j = x[j] :: x.drop (j + 1)) := drop_at x j hltj
          generalize x[j] = y at *
          obtain ⟨yl, yt⟩ := y
          simp only at g0 g1 g2
          obtain ⟨hyn, _, _⟩ := g2.len
          subst hyn
          clear h0
          obtain ⟨b0, hb0⟩ : ∃ b0, ((k : Int) == 0) = b0 := ⟨_, rfl⟩
          have HS : ∀ v, (!(decide ((yt.length : Int) < 1) || decide (18 < (yt.length : Int))) && (if b0 = true then scriptsGo 2 yt else scalars yt)) = v → Hid (targetsB T = (v && (targetsL k (x.drop (j + 1)) && targetsM ((k + 1 : Nat) : Int) (ml.drop (k + 1))))) := fun v hv => Lib.hid (by
            rw [HI.out, HJ.out, ← hv, ← hb0]
            simp [targetsL, Bool.and_assoc])
          have HS' := Lib.hid HS
          have hba2 : Ext wr (wr.alloc (.cells #[.int .i64 yl, .slice ya yt.length yc] 58)) := (Ext.refl _).alloc_ _
          have g2' := g2.ext hba2
          clear HI HJ HR2 HS g2
          by_cases hlen : 1 ≤ yt.length ∧ yt.length ≤ 18
          · have hbad : Hid ((!(decide ((yt.length : Int) < 1) || decide (18 < (yt.length : Int)))) = true) := Lib.hid (by simp; omega)
            cases b0
            · have HS2 : Hid (∀ v, scalars yt = v → Hid (targetsB T = (v && (targetsL k (x.drop (j + 1)) && targetsM ((k + 1 : Nat) : Int) (ml.drop (k + 1)))))) := fun v hv => HS'.out v (by rw [hbad.out]; simpa using hv)
              clear hbad HS'
              obtain ⟨wm, rfl⟩ : ∃ wm : World, wm = wr := ⟨_, rfl⟩
              go_wp2_with fail
              go_loopw [42] (fun i wi => ∃ (q : Nat), q ≤ yt.length ∧ i = .int .i64 q ∧ Hid (scalars yt = scalars (yt.drop q)) ∧ wm.alloc (.cells #[.int .i64 yl, .slice ya yt.length yc] 58) = wi) (fun i _ => yt.length - (intOf i).toNat)
              case atStart => exact ⟨0, Nat.zero_le _, rfl, rfl, rfl⟩
              case round =>
                obtain ⟨q, hq, rfl, HQ, rfl⟩ := hrel
                by_cases hltq : q < yt.length
                · obtain ⟨b5, o5, ha, g5⟩ := g2'.at_ hltq
                  subst ha
                  have HJ5 : Hid (yt.drop q = yt[q] :: yt.drop (q + 1)) := drop_at yt q hltq
                  generalize yt[q] = z at *
                  cases hz : scalarB z
                  · have HF := HS2.out false (by rw [HQ.out, HJ5.out]; simp [scalars, hz])
                    have hz0 : utfLen z = 0 := (utfLen_eq_zero z).2 hz
                    have HZ := Lib.hid hz0
                    clear HQ HJ5 HS2 hz hz0
                    go_wp2_with (go_at_call 59; refine (length_spec _ _).mono ?_; rintro e w4 ⟨rfl, rfl⟩; rw [HZ.out])
                    go_ret
                    exact ⟨ret_bool (by rw [HF.out]; rfl), hb01.trans' (hb1i.alloc_ _)⟩
                  · have HQ2 := hid_trans HQ (show _ = scalars (yt.drop (q + 1)) from by rw [HJ5.out]; simp [scalars, hz])
                    have hz0 : (utfLen z == 0) = false := by
                      rw [beq_eq_false_iff_ne]; intro h; have := (utfLen_eq_zero z).1 h; rw [hz] at this; cases this
                    clear HQ HJ5 hz
                    go_wp2_with (go_at_call 59; refine (length_spec _ _).mono ?_; rintro e w4 ⟨rfl, rfl⟩)
                    go_roundw
                    case rel => exact ⟨q + 1, by omega, by go_num, HQ2, by trivial⟩
                    case measure => simp [intOf]; omega
                · have HF := HS2.out true (by rw [HQ.out, drop_all yt q (by omega)]; rfl)
                  clear HS2 HQ
                  go_wp2
                  go_roundw
                  case rel => exact ⟨j + 1, by omega, by go_num, HF, hbi.alloc_ _⟩
                  case measure => simp [intOf]; omega
            · have HS2 : Hid (∀ v, scriptsGo 2 yt = v → Hid (targetsB T = (v && (targetsL k (x.drop (j + 1)) && targetsM ((k + 1 : Nat) : Int) (ml.drop (k + 1)))))) := fun v hv => HS'.out v (by rw [hbad.out]; simpa using hv)
              clear hbad HS'
              go_wp2_with fail
              refine (scripts_spec yt _ _ _ _ g2').mono ?_
              rintro e w4 ⟨rfl, rfl⟩
              cases hsg : scriptsGo 2 yt
              · have HF := HS2.out false hsg
                clear hsg HS2
                go_wp2
                go_ret
                exact ⟨ret_bool (by rw [HF.out]; rfl), hb01.trans' (hb1i.alloc_ _)⟩
              · have HF := HS2.out true hsg
                clear hsg HS2
                go_wp2
                go_roundw
                case rel => exact ⟨j + 1, by omega, by go_num, HF, hbi.alloc_ _⟩
                case measure => simp [intOf]; omega
          · have HF := HS'.out false (by
              have : (!(decide ((yt.length : Int) < 1) || decide (18 < (yt.length : Int)))) = false := by simp; omega
              rw [this]; rfl)
            clear HS'
            by_cases hlen1 : yt.length < 1
            · go_wp2
              go_ret
              exact ⟨ret_bool (by rw [HF.out]; rfl), hb01.trans' (hb1i.alloc_ _)⟩
            · have hlen2 : 18 < yt.length := by omega
              go_wp2
              go_ret
              exact ⟨ret_bool (by rw [HF.out]; rfl), hb01.trans' (hb1i.alloc_ _)⟩
        · have HF := hid_trans HI (show _ = targetsM ((k + 1 : Nat) : Int) (ml.drop (k + 1)) from by rw [drop_all x j (by omega)]; simp [targetsL])
          clear HI HR2 h0
          go_wp2
          go_roundw
          case rel => exact ⟨k + 1, by omega, by go_num, HF, hb1i⟩
          case measure => simp [intOf]; omega
    · have HF := hid_trans HR (show _ = true from by rw [drop_all ml k (by rw [HL4.out]; omega)]; simp [targetsM])
      clear HR
      go_wp2
      go_ret
      exact ⟨ret_bool HF.out.symm, hb01.trans' hbr⟩
end Go.Proofs.YtgfdecfcbnnemaaDoor
