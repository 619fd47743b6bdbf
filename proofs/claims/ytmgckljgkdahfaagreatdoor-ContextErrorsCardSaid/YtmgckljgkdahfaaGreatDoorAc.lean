/- Walk: namedesklaw15.agrees. (By program: ag_gen.py.) -/
import Derived.Test.YtmgckljgkdahfaaGreatDoorVm
import Derived.Test.YtmgckljgkdahfaaGreatDoorR
namespace Go.Proofs.YtmgckljgkdahfaaGreatDoor
open Go.RowKit

set_option maxHeartbeats 1600000 in
set_option maxRecDepth 100000 in
theorem cpermitted_spec (t : TV) (T : Tbl) (l : List Int) (A : Option Addr) (n c : Nat) (i : Int) (w : World) (ht : TblS w t T) (h : IntS w ⟨A, n, c⟩ l) :
    Calls Tryz.prog 38 #[t.v, .slice A n c, .int .i64 i] w fun e w' => e = .returned (.bool (cpermB T l i)) ∧ Ext w w' := by
  obtain ⟨hn, _, _⟩ := h.len
  subst hn
  have HT := Lib.hid ht
  have HI := Lib.hid h
  have hba : Ext w (w.alloc (.cells #[.slice t.s0.a t.s0.n t.s0.c, .slice t.s1.a t.s1.n t.s1.c, .slice t.s2.a t.s2.n t.s2.c, .slice t.s3.a t.s3.n t.s3.c, .slice t.s4.a t.s4.n t.s4.c, .slice t.s5.a t.s5.n t.s5.c, .slice t.s6.a t.s6.n t.s6.c, .slice t.s7.a t.s7.n t.s7.c, .slice t.s8.a t.s8.n t.s8.c, .slice t.s9.a t.s9.n t.s9.c, .slice t.s10.a t.s10.n t.s10.c, .slice t.s11.a t.s11.n t.s11.c] 26)) := (Ext.refl _).alloc_ _
  cases hx : existsB T l i
  · have HF : Hid (cpermB T l i = false) := Lib.hid (by rw [cpermB, hx]; rfl)
    have HQ : Hid (∀ b1 b2 b3, (ordErr T l == 0) = b1 → decide (0 ≤ i) = b2 → decide (i < (l.length : Int)) = b3 → (b1 && b2 && b3) = false) := Lib.hid (fun b1 b2 b3 h1 h2 h3 => by rw [← h1, ← h2, ← h3]; exact hx)
    obtain ⟨b1, h1⟩ : ∃ b1, (ordErr T l == 0) = b1 := ⟨_, rfl⟩
    obtain ⟨b2, h2⟩ : ∃ b1, decide (0 ≤ i) = b1 := ⟨_, rfl⟩
    obtain ⟨b3, h3⟩ : ∃ b1, decide (i < (l.length : Int)) = b1 := ⟨_, rfl⟩
    have hq := HQ.out _ _ _ h1 h2 h3
    clear HQ hx
    go_enter Tryz.func38, Tryz.ntmps38
    go_wp2_with fail
    refine (order_spec t T l A _ c _ (HT.out.ext_ hba) (HI.out.ext hba)).mono ?_
    rintro e w1 ⟨v, rfl, hb1, _⟩
    have hb01 := hba.trans' hb1
    cases b1 <;> cases b2 <;> cases b3
    case true.true.true => cases hq
    all_goals
      clear hq
      go_wp2_with fail
      go_ret
      exact ⟨ret_bool HF.out.symm, hb01⟩
  · obtain ⟨k, rfl, hk, hz⟩ := existsB_true hx
    have HF : Hid (cpermB T l k = cper T l k) := Lib.hid (by rw [cpermB, hx]; rfl)
    have HO : Hid (ordErr T l = 0) := Lib.hid (by
      simp only [existsB, Bool.and_eq_true, beq_iff_eq] at hx
      exact hx.1.1)
    have HW := Lib.hid (wf_srt hz)
    have d1 : decide ((k : Int) < (l.length : Int)) = true := decide_eq_true (by omega)
    have d2 : decide (k < l.length) = true := decide_eq_true hk
    have d3 : (0 : Int) ≤ (k : Int) := Int.natCast_nonneg _
    clear hx hz
    go_enter Tryz.func38, Tryz.ntmps38
    go_wp2_with fail
    refine (order_spec t T l A _ c _ (HT.out.ext_ hba) (HI.out.ext hba)).mono ?_
    rintro e w1 ⟨v, rfl, hb1, _⟩
    rw [HO.out]
    have hb01 := hba.trans' hb1
    have rT1 : ∀ p : Nat, w1.cell? ⟨w.heap.size, p, none⟩ = t.v.cells[p]? := box_at hb1
    go_wp2_with (go_at_call 68; refine (cper_spec t T l A _ c k _ (HT.out.ext_ hb01) HW.out (HI.out.ext hb01) hk).mono ?_; rintro e w2 ⟨rfl, hb2⟩)
    go_ret
    exact ⟨ret_bool HF.out.symm, hb01.trans' hb2⟩

set_option maxHeartbeats 6400000 in
set_option maxRecDepth 100000 in
theorem cagrees_spec (t : TV) (T : Tbl) (l : List Int) (A : Option Addr) (n c : Nat) (raw : Int) (w : World) (ht : TblS w t T) (h : IntS w ⟨A, n, c⟩ l) :
    Calls Tryz.prog 12 #[t.v, .slice A n c, .int .i64 raw] w fun e w' => e = .returned (.bool true) ∧ Ext w w' := by
  obtain ⟨hn, hcap, hmx⟩ := h.len
  subst hn
  have hba : Ext w (w.alloc (.cells #[.slice t.s0.a t.s0.n t.s0.c, .slice t.s1.a t.s1.n t.s1.c, .slice t.s2.a t.s2.n t.s2.c, .slice t.s3.a t.s3.n t.s3.c, .slice t.s4.a t.s4.n t.s4.c, .slice t.s5.a t.s5.n t.s5.c, .slice t.s6.a t.s6.n t.s6.c, .slice t.s7.a t.s7.n t.s7.c, .slice t.s8.a t.s8.n t.s8.c, .slice t.s9.a t.s9.n t.s9.c, .slice t.s10.a t.s10.n t.s10.c, .slice t.s11.a t.s11.n t.s11.c] 26)) := (Ext.refl _).alloc_ _
  have HI := Lib.hid h
  have HT := Lib.hid ht
  clear h ht
  have P0 : Hid (∀ (i : Int) v, cpermB T l i = v → ∀ w', Ext w w' → Calls Tryz.prog 38 #[t.v, .slice A l.length c, .int .i64 i] w' fun e w'' => e = .returned (.bool v) ∧ Ext w' w'') := Lib.hid (fun i v hv w' hw' => by
    have h' := cpermitted_spec t T l A l.length c i w' (HT.out.ext_ hw') (HI.out.ext hw')
    rw [hv] at h'
    exact h')
  have R0 : Hid (∀ (i : Int) v, cpermB T l i = v → ∀ w', Ext w w' → Calls Tryz.prog 39 #[t.v, .slice A l.length c, .int .i64 i] w' fun e w'' => e = .returned (.bool v) ∧ Ext w' w'') := Lib.hid (fun i v hv w' hw' => by
    have h' := rcpermitted_spec t T l A l.length c i w' (HT.out.ext_ hw') (HI.out.ext hw')
    rw [hv] at h'
    exact h')
  have CP : Hid (∀ v, ccheck T l = v → ∀ w', Ext w w' → Calls Tryz.prog 36 #[t.v, .slice A l.length c] w' fun e w'' => e = .returned (.tuple #[.int .i64 v.1, .int .i64 v.2]) ∧ Ext w' w'') := Lib.hid (fun v hv w' hw' => by
    have h' := ccheck_spec t T l A l.length c w' (HT.out.ext_ hw') (HI.out.ext hw')
    rw [hv] at h'
    exact h')
  have CR : Hid (∀ v, ccheck T l = v → ∀ w', Ext w w' → Calls Tryz.prog 40 #[t.v, .slice A l.length c] w' fun e w'' => e = .returned (.tuple #[.int .i64 v.1, .int .i64 v.2]) ∧ Ext w' w'') := Lib.hid (fun v hv w' hw' => by
    have h' := rccheck_spec t T l A l.length c w' (HT.out.ext_ hw') (HI.out.ext hw')
    rw [hv] at h'
    exact h')
  go_enter Tryz.func12, Tryz.ntmps12
  go_wp2_with fail
  go_loopw [7] (fun s7 wr => ∃ (i : Int), -1 ≤ i ∧ i ≤ 20 ∧ s7 = .int .i64 i ∧ Ext (w.alloc (.cells #[.slice t.s0.a t.s0.n t.s0.c, .slice t.s1.a t.s1.n t.s1.c, .slice t.s2.a t.s2.n t.s2.c, .slice t.s3.a t.s3.n t.s3.c, .slice t.s4.a t.s4.n t.s4.c, .slice t.s5.a t.s5.n t.s5.c, .slice t.s6.a t.s6.n t.s6.c, .slice t.s7.a t.s7.n t.s7.c, .slice t.s8.a t.s8.n t.s8.c, .slice t.s9.a t.s9.n t.s9.c, .slice t.s10.a t.s10.n t.s10.c, .slice t.s11.a t.s11.n t.s11.c] 26)) wr) (fun s7 _ => (20 - intOf s7).toNat)
  case atStart => exact ⟨-1, by omega, by omega, rfl, Ext.refl _⟩
  case round =>
    obtain ⟨i, hi1, hi2, rfl, hbr⟩ := hrel
    have HBR := Lib.hid hbr
    have HW := Lib.hid (hba.trans' hbr)
    clear hbr
    by_cases hc : i ≤ (l.length : Int) ∧ i < 20
    · have dc1 : decide (i ≤ (l.length : Int)) = true := decide_eq_true hc.1
      have dc2 : decide (i < 20) = true := decide_eq_true hc.2
      obtain ⟨hc1, hc2⟩ := hc
      have rT : ∀ z : ExtW wr, ∀ p : Nat, z.w.cell? ⟨w.heap.size, p, none⟩ = t.v.cells[p]? := fun z => box_at (HBR.out.trans' z.h)
      obtain ⟨u0, hu0⟩ : ∃ v, cpermB T l (i) = v := ⟨_, rfl⟩
      have e0 : (u0 != u0) = false := by rw [bne_self_eq_false]
      have e0' : (u0 == u0) = true := by rw [beq_self_eq_true]
      have P0a : Hid (∀ z : ExtW wr, Calls Tryz.prog 38 #[t.v, .slice A l.length c, .int .i64 (i)] z.w fun e w'' => e = .returned (.bool u0) ∧ Ext z.w w'') := Lib.hid (fun z => P0.out (i) u0 hu0 z.w (HW.out.trans' z.h))
      have R0a : Hid (∀ z : ExtW wr, Calls Tryz.prog 39 #[t.v, .slice A l.length c, .int .i64 (i)] z.w fun e w'' => e = .returned (.bool u0) ∧ Ext z.w w'') := Lib.hid (fun z => R0.out (i) u0 hu0 z.w (HW.out.trans' z.h))
      clear hu0
      obtain ⟨wo, rfl⟩ : ∃ wo : World, wo = wr := ⟨_, rfl⟩
      go_wp2_with fail
      refine region_ext (by kernel_rfl) (by kernel_rfl) ?_
      repeat (go_big_quiet_step (first | (go_at_call 38; with_reducible exact quiet_ext (P0a.out _)) | (go_at_call 39; with_reducible exact quiet_ext (R0a.out _))))
      refine wpQuiet_nil ?_
      rintro _ ⟨z, rfl⟩
      clear rT
      go_wp2_with fail
      go_roundw
      case rel => exact ⟨i + 1, by omega, by omega, by go_num, HBR.out.trans' z.h⟩
      case measure => simp [intOf]; omega
    · have hF : ∀ b1 b2, decide (i ≤ (l.length : Int)) = b1 → decide (i < 20) = b2 → (b1 && b2) = false := fun b1 b2 h1 h2 => by
        rw [← h1, ← h2, ← Bool.decide_and]
        exact decide_eq_false hc
      obtain ⟨b1, k1⟩ : ∃ b, decide (i ≤ (l.length : Int)) = b := ⟨_, rfl⟩
      obtain ⟨b2, k2⟩ : ∃ b, decide (i < 20) = b := ⟨_, rfl⟩
      have hF2 := hF b1 b2 k1 k2
      clear hF hc
      obtain ⟨cv, hcv⟩ : ∃ v, ccheck T l = v := ⟨_, rfl⟩
      obtain ⟨c1, c2⟩ := cv
      have f1 : (c1 == c1) = true := by rw [beq_self_eq_true]
      have f2 : (c2 == c2) = true := by rw [beq_self_eq_true]
      have CP1 := Lib.hid (CP.out (c1, c2) hcv)
      have CR1 := Lib.hid (CR.out (c1, c2) hcv)
      clear hcv
      have rTr : ∀ p : Nat, wr.cell? ⟨w.heap.size, p, none⟩ = t.v.cells[p]? := box_at HBR.out
      cases b1 <;> cases b2
      case true.true => cases hF2
      all_goals
        clear hF2
        go_wp2_with fail
        refine (CP1.out _ HW.out).mono ?_
        rintro e w2 ⟨rfl, hb2⟩
        have HB2 := Lib.hid (HW.out.trans' hb2)
        have rT2 : ∀ p : Nat, w2.cell? ⟨w.heap.size, p, none⟩ = t.v.cells[p]? := box_at (HBR.out.trans' hb2)
        go_wp2_with fail
        refine (CR1.out _ HB2.out).mono ?_
        rintro e w3 ⟨rfl, hb3⟩
        have HB3 := Lib.hid (HB2.out.trans' hb3)
        have HX3 := Lib.hid (HBR.out.trans' (hb2.trans' hb3))
        go_wp2_with fail
        have rT : ∀ z : ExtW w3, ∀ p : Nat, z.w.cell? ⟨w.heap.size, p, none⟩ = t.v.cells[p]? := fun z => box_at (HX3.out.trans' z.h)
        obtain ⟨u0, hu0⟩ : ∃ v, cpermB T l (raw) = v := ⟨_, rfl⟩
        have e0 : (u0 != u0) = false := by rw [bne_self_eq_false]
        have e0' : (u0 == u0) = true := by rw [beq_self_eq_true]
        have P0b : Hid (∀ z : ExtW w3, Calls Tryz.prog 38 #[t.v, .slice A l.length c, .int .i64 (raw)] z.w fun e w'' => e = .returned (.bool u0) ∧ Ext z.w w'') := Lib.hid (fun z => P0.out (raw) u0 hu0 z.w (HB3.out.trans' z.h))
        have R0b : Hid (∀ z : ExtW w3, Calls Tryz.prog 39 #[t.v, .slice A l.length c, .int .i64 (raw)] z.w fun e w'' => e = .returned (.bool u0) ∧ Ext z.w w'') := Lib.hid (fun z => R0.out (raw) u0 hu0 z.w (HB3.out.trans' z.h))
        clear hu0
        obtain ⟨ux, hux⟩ : ∃ v, ctxIs raw = v := ⟨_, rfl⟩
        have ex' : (ux == ux) = true := by rw [beq_self_eq_true]
        have IS : Hid (∀ z : ExtW w3, Calls Tryz.prog 37 #[.int .i64 raw] z.w fun e w'' => e = .returned (.bool ux) ∧ z.w = w'') := Lib.hid (fun z => by have h' := ctxIs_spec raw z.w; rw [hux] at h'; exact h')
        have IN : Hid (∀ z : ExtW w3, Calls Tryz.prog 41 #[.int .i64 raw] z.w fun e w'' => e = .returned (.bool ux) ∧ z.w = w'') := Lib.hid (fun z => by have h' := rneeds_spec raw z.w; rw [hux] at h'; exact h')
        clear hux
        clear rTr rT2
        refine region_ext (by kernel_rfl) (by kernel_rfl) ?_
        repeat (go_big_quiet_step (first | (go_at_call 38; with_reducible exact quiet_ext (P0b.out _)) | (go_at_call 39; with_reducible exact quiet_ext (R0b.out _)) | (go_at_call 37; with_reducible exact quiet_same (IS.out _)) | (go_at_call 41; with_reducible exact quiet_same (IN.out _))))
        refine wpQuiet_nil ?_
        rintro _ ⟨z, rfl⟩
        clear rT
        go_wp2_with fail
        go_ret
        exact ⟨rfl, HB3.out.trans' z.h⟩
end Go.Proofs.YtmgckljgkdahfaaGreatDoor
