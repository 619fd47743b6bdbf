/- Walk: the reference's Level of layer 19. -/
import Derived.Test.YtmgckljgkdahfaaGreatDoorYd
namespace Go.Proofs.YtmgckljgkdahfaaGreatDoor
open Go.RowKit

def hiFrom (T : Tbl) (l : List Int) : Nat → Int → Bool
  | 0, _ => false
  | n + 1, k => if covT T l (bitS 3 ||| bitS k) = true then true else hiFrom T l n (k + 1)
theorem high_from (T : Tbl) (l : List Int) : highT T l = hiFrom T l 3 61 := by
  simp only [highT, hiFrom]
  rw [show (61 : Int) + 1 = 62 from rfl, show (62 : Int) + 1 = 63 from rfl]
  cases covT T l (bitS 3 ||| bitS 61) <;> cases covT T l (bitS 3 ||| bitS 62) <;> cases covT T l (bitS 3 ||| bitS 63) <;> rfl
theorem or8 (k : Int) : bits .or .u64 8 (uv (bitS k)) = uv (bitS 3 ||| bitS k) := by
  rw [← bits_or_uv, show uv (bitS 3) = 8 from by decide +kernel]
theorem hasS_all (v : BitVec 64) : hasS v allS = (v != 0#64) := by
  unfold hasS
  rw [show allS = BitVec.allOnes 64 from by decide +kernel, BitVec.and_allOnes]

set_option maxHeartbeats 6400000 in
set_option maxRecDepth 100000 in
theorem rlevel_spec (t : TV) (T : Tbl) (l : List Int) (A : Option Addr) (n c : Nat) (w : World) (ht : TblS w t T) (h : IntS w ⟨A, n, c⟩ l) :
    Calls Tryz.prog 22 #[t.v, .slice A n c] w fun e w' => e = .returned (.tuple #[.int .i64 (levelT T l), .int .i64 (ordErr T l)]) ∧ Ext w w' := by
  obtain ⟨hn, hcap, hmx⟩ := h.len
  subst hn
  have hba : Ext w (w.alloc (.cells #[.slice t.s0.a t.s0.n t.s0.c, .slice t.s1.a t.s1.n t.s1.c, .slice t.s2.a t.s2.n t.s2.c, .slice t.s3.a t.s3.n t.s3.c, .slice t.s4.a t.s4.n t.s4.c, .slice t.s5.a t.s5.n t.s5.c, .slice t.s6.a t.s6.n t.s6.c, .slice t.s7.a t.s7.n t.s7.c, .slice t.s8.a t.s8.n t.s8.c, .slice t.s9.a t.s9.n t.s9.c, .slice t.s10.a t.s10.n t.s10.c, .slice t.s11.a t.s11.n t.s11.c] 26)) := (Ext.refl _).alloc_ _
  have HT := Lib.hid (ht.ext_ hba)
  have HI := Lib.hid (h.ext hba)
  have HO := Lib.hid (racc_spec t T l A l.length c _ HT.out HI.out)
  clear ht h
  by_cases hz : ordErr T l = 0
  · have HW := Lib.hid (sord_wf hz)
    have HZ := Lib.hid hz
    have HG : Hid (levelT T l = levT T l) := Lib.hid (by rw [levelT, if_pos hz])
    have HS : Hid (∀ x v, setS T x = v → ∀ w', Ext (w.alloc (.cells #[.slice t.s0.a t.s0.n t.s0.c, .slice t.s1.a t.s1.n t.s1.c, .slice t.s2.a t.s2.n t.s2.c, .slice t.s3.a t.s3.n t.s3.c, .slice t.s4.a t.s4.n t.s4.c, .slice t.s5.a t.s5.n t.s5.c, .slice t.s6.a t.s6.n t.s6.c, .slice t.s7.a t.s7.n t.s7.c, .slice t.s8.a t.s8.n t.s8.c, .slice t.s9.a t.s9.n t.s9.c, .slice t.s10.a t.s10.n t.s10.c, .slice t.s11.a t.s11.n t.s11.c] 26)) w' → Calls Tryz.prog 59 #[t.v, .int .i64 x] w' fun e w'' => e = .returned (.int .u64 (uv v)) ∧ Ext w' w'') := Lib.hid (fun x v hv w' hw' => by
      have h' := rset_spec t T x w' (HT.out.ext_ hw') HW.out
      rw [hv] at h'
      exact h')
    have HSI : Hid (∀ v, (resT T l != 0#64) = v → ∀ w', Ext (w.alloc (.cells #[.slice t.s0.a t.s0.n t.s0.c, .slice t.s1.a t.s1.n t.s1.c, .slice t.s2.a t.s2.n t.s2.c, .slice t.s3.a t.s3.n t.s3.c, .slice t.s4.a t.s4.n t.s4.c, .slice t.s5.a t.s5.n t.s5.c, .slice t.s6.a t.s6.n t.s6.c, .slice t.s7.a t.s7.n t.s7.c, .slice t.s8.a t.s8.n t.s8.c, .slice t.s9.a t.s9.n t.s9.c, .slice t.s10.a t.s10.n t.s10.c, .slice t.s11.a t.s11.n t.s11.c] 26)) w' → Calls Tryz.prog 60 #[t.v, .slice A l.length c] w' fun e w'' => e = .returned (.bool v) ∧ Ext w' w'') := Lib.hid (fun v hv w' hw' => by
      have h' := rsingle_spec t T l A l.length c w' (HT.out.ext_ hw') (HI.out.ext hw')
      rw [show singleT T l = (resT T l != 0#64) from by rw [singleT, HZ.out]; rfl, hv] at h'
      exact h')
    have HCV : Hid (∀ m v, covT T l m = v → ∀ w', Ext (w.alloc (.cells #[.slice t.s0.a t.s0.n t.s0.c, .slice t.s1.a t.s1.n t.s1.c, .slice t.s2.a t.s2.n t.s2.c, .slice t.s3.a t.s3.n t.s3.c, .slice t.s4.a t.s4.n t.s4.c, .slice t.s5.a t.s5.n t.s5.c, .slice t.s6.a t.s6.n t.s6.c, .slice t.s7.a t.s7.n t.s7.c, .slice t.s8.a t.s8.n t.s8.c, .slice t.s9.a t.s9.n t.s9.c, .slice t.s10.a t.s10.n t.s10.c, .slice t.s11.a t.s11.n t.s11.c] 26)) w' → Calls Tryz.prog 61 #[t.v, .slice A l.length c, .int .u64 (uv m)] w' fun e w'' => e = .returned (.bool v) ∧ Ext w' w'') := Lib.hid (fun m v hv w' hw' => by
      have h' := rCovered_spec t T l m A l.length c w' (HT.out.ext_ hw') (HI.out.ext hw')
      rw [show coverT T l m = covT T l m from by rw [coverT, HZ.out]; rfl, hv] at h'
      exact h')
    have HLV : Hid (levT T l = if asciiL l = true then 1 else if (resT T l != 0#64) = true then 2 else if highT T l = true then 3 else if modFrom T l 58 3 = true then 4 else if covT T l allS = true then 5 else 6) := rfl
    have HHI := Lib.hid (high_from T l)
    have HMO : Hid ((resT T l != 0#64) = false → modRef T l 58 3 = modFrom T l 58 3) := Lib.hid mod_eq
    clear hz
    go_enter Tryz.func22, Tryz.ntmps22
    go_wp2_with fail
    refine HO.out.mono ?_
    rintro e w1 ⟨rfl, hb1⟩
    rw [HZ.out]
    have HB1 := Lib.hid hb1
    clear hb1
    go_wp2_with fail
    go_loopw [7, 8, 21] (fun s7 s8 s21 wr => ∃ (k : Nat) (a b : Bool), k ≤ l.length ∧ s21 = .int .i64 k ∧ s7 = .bool a ∧ s8 = .bool b ∧ Hid (asciiL l = (a && asciiL (l.drop k))) ∧ Hid (covT T l allS = (b && covT T (l.drop k) allS)) ∧ Ext (w.alloc (.cells #[.slice t.s0.a t.s0.n t.s0.c, .slice t.s1.a t.s1.n t.s1.c, .slice t.s2.a t.s2.n t.s2.c, .slice t.s3.a t.s3.n t.s3.c, .slice t.s4.a t.s4.n t.s4.c, .slice t.s5.a t.s5.n t.s5.c, .slice t.s6.a t.s6.n t.s6.c, .slice t.s7.a t.s7.n t.s7.c, .slice t.s8.a t.s8.n t.s8.c, .slice t.s9.a t.s9.n t.s9.c, .slice t.s10.a t.s10.n t.s10.c, .slice t.s11.a t.s11.n t.s11.c] 26)) wr) (fun _ _ s21 _ => l.length - (intOf s21).toNat)
    case atStart => exact ⟨0, true, true, Nat.zero_le _, rfl, rfl, rfl, rfl, rfl, HB1.out⟩
    case round =>
      obtain ⟨k, a, b, hk, rfl, rfl, rfl, HA, HK, hbr⟩ := hrel
      have HBR := Lib.hid hbr
      have rT : ∀ k : Nat, wr.cell? ⟨w.heap.size, k, none⟩ = t.v.cells[k]? := box_at hbr
      clear hbr
      by_cases hlt : k < l.length
      · obtain ⟨bb, o, ha, h1⟩ := (HI.out.ext HBR.out).at_ hlt
        subst ha
        have HD : Hid (l.drop k = l[k] :: l.drop (k + 1)) := drop_at l k hlt
        generalize l[k] = x at *
        obtain ⟨v, hv⟩ : ∃ v, setS T x = v := ⟨_, rfl⟩
        have HC := Lib.hid (HS.out x v hv wr HBR.out)
        have HA1 : Hid (asciiL l = ((a && decide (x ≤ 127)) && asciiL (l.drop (k + 1)))) := Lib.hid (by rw [HA.out, HD.out, asciiL, List.all_cons, Bool.and_assoc]; rfl)
        have HK1 : Hid (covT T l allS = ((b && hasS v allS) && covT T (l.drop (k + 1)) allS)) := Lib.hid (by rw [HK.out, HD.out, covT, List.all_cons, hv, Bool.and_assoc]; rfl)
        have q1 : (uv v != 0) = hasS v allS := by rw [hasS_all, ← uv_zero, bne, uv_beq]; rfl
        have dx : decide (x < 128) = decide (x ≤ 127) := by
          by_cases h : x ≤ 127
          · rw [decide_eq_true h, decide_eq_true (by omega)]
          · rw [decide_eq_false h, decide_eq_false (by omega)]
        obtain ⟨p, hp⟩ : ∃ p, decide (x ≤ 127) = p := ⟨_, rfl⟩
        obtain ⟨q, hq⟩ : ∃ q, hasS v allS = q := ⟨_, rfl⟩
        rw [hp] at HA1 dx
        rw [hq] at HK1 q1
        clear HA HK HD hv hp hq
        cases a <;> cases b <;> cases p
        all_goals
          go_wp2_with (go_at_call 59; refine HC.out.mono ?_; rintro e w2 ⟨rfl, hb2⟩)
          go_roundw
          case rel =>
            first
              | exact ⟨k + 1, _, _, by omega, by go_num, rfl, rfl, HA1, HK1, HBR.out⟩
              | exact ⟨k + 1, _, q, by omega, by go_num, rfl, rfl, HA1, HK1, HBR.out.trans' hb2⟩
          case measure => simp [intOf]; omega
      · have HA1 : Hid (asciiL l = a) := Lib.hid (by rw [HA.out, drop_all l k (by omega)]; simp [asciiL])
        have HK1 : Hid (covT T l allS = b) := Lib.hid (by rw [HK.out, drop_all l k (by omega)]; simp [covT])
        clear HA HK
        obtain ⟨r2, hr2⟩ : ∃ v, (resT T l != 0#64) = v := ⟨_, rfl⟩
        have HSI1 := Lib.hid (HSI.out r2 hr2 wr HBR.out)
        have HMO1 : Hid (r2 = false → modRef T l 58 3 = modFrom T l 58 3) := Lib.hid (fun h => HMO.out (hr2.trans h))
        have HLV1 : Hid (levelT T l = if a = true then 1 else if r2 = true then 2 else if highT T l = true then 3 else if modFrom T l 58 3 = true then 4 else if b = true then 5 else 6) := Lib.hid (by rw [HG.out, HLV.out, HA1.out, HK1.out, hr2])
        obtain ⟨L, hL⟩ : ∃ L, levelT T l = L := ⟨_, rfl⟩
        rw [hL] at HLV1
        have HLE := Lib.hid hL
        clear hL hr2 HG HLV HMO HSI
        cases a
        case true =>
          have HM : Hid (L = 1) := Lib.hid HLV1.out
          have hx := hba.trans' HBR.out
          go_wp2_with fail
          go_ret2
          exact ⟨ret_tup (HLE.out.trans HM.out).symm HZ.out.symm, hx⟩
        go_wp2_with fail
        refine HSI1.out.mono ?_
        rintro e w3 ⟨rfl, hb3⟩
        have HX3 := Lib.hid (HBR.out.trans' hb3)
        clear hb3 rT
        cases r2
        case true =>
          have HM : Hid (L = 2) := Lib.hid HLV1.out
          have hx := hba.trans' HX3.out
          go_wp2_with fail
          go_ret2
          exact ⟨ret_tup (HLE.out.trans HM.out).symm HZ.out.symm, hx⟩
        have HME := Lib.hid (HMO1.out rfl)
        obtain ⟨R1, hR1⟩ : ∃ R, highT T l = R := ⟨_, rfl⟩
        obtain ⟨R2, hR2⟩ : ∃ R, modFrom T l 58 3 = R := ⟨_, rfl⟩
        have HL1 : Hid (L = if R1 = true then 3 else if R2 = true then 4 else if b = true then 5 else 6) := Lib.hid (by rw [HLV1.out, hR1, hR2]; rfl)
        have HH1 : Hid (R1 = hiFrom T l 3 61) := Lib.hid (by rw [← hR1, HHI.out])
        have HH2 : Hid (R2 = modRef T l 58 3) := Lib.hid (by rw [← hR2, HME.out])
        clear hR1 hR2 HLV1 HME HMO1 HHI
        go_wp2_with fail
        go_loopw [11] (fun s11 wr => ∃ (k : Int) (f : Nat), 61 ≤ k ∧ k ≤ 64 ∧ k + f = 64 ∧ s11 = .int .i64 k ∧ Hid (R1 = hiFrom T l f k) ∧ Ext (w.alloc (.cells #[.slice t.s0.a t.s0.n t.s0.c, .slice t.s1.a t.s1.n t.s1.c, .slice t.s2.a t.s2.n t.s2.c, .slice t.s3.a t.s3.n t.s3.c, .slice t.s4.a t.s4.n t.s4.c, .slice t.s5.a t.s5.n t.s5.c, .slice t.s6.a t.s6.n t.s6.c, .slice t.s7.a t.s7.n t.s7.c, .slice t.s8.a t.s8.n t.s8.c, .slice t.s9.a t.s9.n t.s9.c, .slice t.s10.a t.s10.n t.s10.c, .slice t.s11.a t.s11.n t.s11.c] 26)) wr) (fun s11 _ => (64 - intOf s11).toNat)
        case atStart => exact ⟨61, 3, by omega, by omega, by omega, rfl, HH1, HX3.out⟩
        case round =>
          obtain ⟨k, f, hk0, hk1, hkf, rfl, HR, hbr⟩ := hrel
          obtain ⟨w4, rfl⟩ : ∃ w4 : World, w4 = wr := ⟨_, rfl⟩
          have HB4 := Lib.hid hbr
          have rT : ∀ k : Nat, w4.cell? ⟨w.heap.size, k, none⟩ = t.v.cells[k]? := box_at hbr
          clear hbr
          by_cases hlt : k ≤ 63
          · obtain ⟨f, rfl⟩ : ∃ f', f = f' + 1 := ⟨f - 1, by omega⟩
            obtain ⟨v, hv⟩ : ∃ v, covT T l (bitS 3 ||| bitS k) = v := ⟨_, rfl⟩
            have HR1 : Hid (R1 = if v = true then true else hiFrom T l f (k + 1)) := Lib.hid (by rw [HR.out, hiFrom, hv])
            have HC := Lib.hid (HCV.out _ v hv w4 HB4.out)
            have q1 := or8 k
            have hsh : IntKind.u64.wrap (2 ^ k.toNat) = uv (bitS k) := shl_bit (by omega) hlt
            have k0 : 0 ≤ k := by omega
            clear HR hv
            go_wp2_with fail
            refine HC.out.mono ?_
            rintro e w5 ⟨rfl, hb5⟩
            have HX5 := Lib.hid (HB4.out.trans' hb5)
            clear hb5
            cases v
            · have HG : Hid (R1 = hiFrom T l f (k + 1)) := Lib.hid (by rw [HR1.out]; rfl)
              go_wp2_with fail
              go_roundw
              case rel => exact ⟨k + 1, f, by omega, by omega, by omega, by go_num, HG, HX5.out⟩
              case measure => simp [intOf]; omega
            · have HM : Hid (L = 3) := Lib.hid (by rw [HL1.out, HR1.out]; rfl)
              have hx := hba.trans' HX5.out
              go_wp2_with fail
              go_ret2
              exact ⟨ret_tup (HLE.out.trans HM.out).symm HZ.out.symm, hx⟩
          · have hk64 : k = 64 := by omega
            subst hk64
            have hf0 : f = 0 := by omega
            subst hf0
            have HL2 : Hid (L = if R2 = true then 4 else if b = true then 5 else 6) := Lib.hid (by rw [HL1.out, HR.out]; rfl)
            clear HR HL1 HH1
            go_wp2_with fail
            go_loopw [12] (fun s12 wr => ∃ (k : Int) (f : Nat), 3 ≤ k ∧ k ≤ 61 ∧ k + f = 61 ∧ s12 = .int .i64 k ∧ Hid (R2 = modRef T l f k) ∧ Ext (w.alloc (.cells #[.slice t.s0.a t.s0.n t.s0.c, .slice t.s1.a t.s1.n t.s1.c, .slice t.s2.a t.s2.n t.s2.c, .slice t.s3.a t.s3.n t.s3.c, .slice t.s4.a t.s4.n t.s4.c, .slice t.s5.a t.s5.n t.s5.c, .slice t.s6.a t.s6.n t.s6.c, .slice t.s7.a t.s7.n t.s7.c, .slice t.s8.a t.s8.n t.s8.c, .slice t.s9.a t.s9.n t.s9.c, .slice t.s10.a t.s10.n t.s10.c, .slice t.s11.a t.s11.n t.s11.c] 26)) wr) (fun s12 _ => (61 - intOf s12).toNat)
            case atStart => exact ⟨3, 58, by omega, by omega, by omega, rfl, HH2, HB4.out⟩
            case round =>
              obtain ⟨k, f, hk0, hk1, hkf, rfl, HR, hbr⟩ := hrel
              obtain ⟨w6, rfl⟩ : ∃ w6 : World, w6 = wr := ⟨_, rfl⟩
              have HB6 := Lib.hid hbr
              have rT6 : ∀ k : Nat, w6.cell? ⟨w.heap.size, k, none⟩ = t.v.cells[k]? := box_at hbr
              clear hbr
              by_cases hlt : k ≤ 60
              · obtain ⟨f, rfl⟩ : ∃ f', f = f' + 1 := ⟨f - 1, by omega⟩
                by_cases h345 : k = 3 ∨ k = 4 ∨ k = 5
                · have HG : Hid (R2 = modRef T l f (k + 1)) := Lib.hid (by rw [HR.out, modRef]; rcases h345 with rfl | rfl | rfl <;> rfl)
                  clear HR
                  rcases h345 with rfl | rfl | rfl
                  all_goals
                    go_wp2_with fail
                    go_roundw
                    case rel => exact ⟨_, f, by omega, by omega, by omega, by go_num, HG, HB6.out⟩
                    case measure => simp [intOf]
                · have e3 : (k != 3) = true := by rw [bne_iff_ne]; omega
                  have e4 : (k != 4) = true := by rw [bne_iff_ne]; omega
                  have e5 : (k != 5) = true := by rw [bne_iff_ne]; omega
                  obtain ⟨v, hv⟩ : ∃ v, covT T l (bitS 3 ||| bitS k) = v := ⟨_, rfl⟩
                  have HR1 : Hid (R2 = if v = true then true else modRef T l f (k + 1)) := Lib.hid (by rw [HR.out, modRef, e3, e4, e5, hv]; rfl)
                  have HC := Lib.hid (HCV.out _ v hv w6 HB6.out)
                  have q1 := or8 k
                  have hsh : IntKind.u64.wrap (2 ^ k.toNat) = uv (bitS k) := shl_bit (by omega) (by omega)
                  have k0 : 0 ≤ k := by omega
                  have k64 : k ≤ 64 := by omega
                  clear HR hv h345
                  go_wp2_with fail
                  refine HC.out.mono ?_
                  rintro e w7 ⟨rfl, hb7⟩
                  have HX7 := Lib.hid (HB6.out.trans' hb7)
                  clear hb7
                  cases v
                  · have HG : Hid (R2 = modRef T l f (k + 1)) := Lib.hid (by rw [HR1.out]; rfl)
                    go_wp2_with fail
                    go_roundw
                    case rel => exact ⟨k + 1, f, by omega, by omega, by omega, by go_num, HG, HX7.out⟩
                    case measure => simp [intOf]; omega
                  · have HM : Hid (L = 4) := Lib.hid (by rw [HL2.out, HR1.out]; rfl)
                    have hx := hba.trans' HX7.out
                    go_wp2_with fail
                    go_ret2
                    exact ⟨ret_tup (HLE.out.trans HM.out).symm HZ.out.symm, hx⟩
              · have hk61 : k = 61 := by omega
                subst hk61
                have hf0 : f = 0 := by omega
                subst hf0
                have HM : Hid (L = if b = true then 5 else 6) := Lib.hid (by rw [HL2.out, HR.out]; rfl)
                have hx := hba.trans' HB6.out
                clear HR
                cases b
                all_goals
                  have HM2 := Lib.hid HM.out
                  go_wp2_with fail
                  go_ret2
                  exact ⟨ret_tup ((HLE.out.trans HM2.out).trans rfl).symm HZ.out.symm, hx⟩
  · have HG : Hid (levelT T l = 0) := Lib.hid (by rw [levelT, if_neg hz])
    have d1 : (ordErr T l != 0) = true := by rw [bne_iff_ne]; exact hz
    clear hz
    generalize ordErr T l = ee at *
    go_enter Tryz.func22, Tryz.ntmps22
    go_wp2_with fail
    refine HO.out.mono ?_
    rintro e w1 ⟨rfl, hb1⟩
    go_wp2_with fail
    go_ret2
    exact ⟨ret_tup HG.out.symm rfl, hba.trans' hb1⟩
end Go.Proofs.YtmgckljgkdahfaaGreatDoor
