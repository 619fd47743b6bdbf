/- Walk: namedesklaw14.agrees. (By program: ag_gen.py.) -/
import Derived.Test.YtmgckljgkdahfaaGreatDoorVl
namespace Go.Proofs.YtmgckljgkdahfaaGreatDoor
open Go.RowKit

set_option maxHeartbeats 6400000 in
set_option maxRecDepth 100000 in
theorem jagrees_spec (t : TV) (T : Tbl) (l : List Int) (A : Option Addr) (n c : Nat) (raw : Int) (w : World) (ht : TblS w t T) (h : IntS w ⟨A, n, c⟩ l) :
    Calls Tryz.prog 18 #[t.v, .slice A n c, .int .i64 raw] w fun e w' => e = .returned (.bool true) ∧ Ext w w' := by
  obtain ⟨hn, hcap, hmx⟩ := h.len
  subst hn
  have hba : Ext w (w.alloc (.cells #[.slice t.s0.a t.s0.n t.s0.c, .slice t.s1.a t.s1.n t.s1.c, .slice t.s2.a t.s2.n t.s2.c, .slice t.s3.a t.s3.n t.s3.c, .slice t.s4.a t.s4.n t.s4.c, .slice t.s5.a t.s5.n t.s5.c, .slice t.s6.a t.s6.n t.s6.c, .slice t.s7.a t.s7.n t.s7.c, .slice t.s8.a t.s8.n t.s8.c, .slice t.s9.a t.s9.n t.s9.c, .slice t.s10.a t.s10.n t.s10.c, .slice t.s11.a t.s11.n t.s11.c] 26)) := (Ext.refl _).alloc_ _
  have HI := Lib.hid h
  have HT := Lib.hid ht
  clear h ht
  have P0 : Hid (∀ (i : Int) v, leftV T l i = v → ∀ w', Ext w w' → Calls Tryz.prog 46 #[t.v, .slice A l.length c, .int .i64 i] w' fun e w'' => e = .returned (.int .i64 v) ∧ Ext w' w'') := Lib.hid (fun i v hv w' hw' => by
    have h' := left_spec t T l A l.length c i w' (HT.out.ext_ hw') (HI.out.ext hw')
    rw [hv] at h'
    exact h')
  have R0 : Hid (∀ (i : Int) v, leftV T l i = v → ∀ w', Ext w w' → Calls Tryz.prog 47 #[t.v, .slice A l.length c, .int .i64 i] w' fun e w'' => e = .returned (.int .i64 v) ∧ Ext w' w'') := Lib.hid (fun i v hv w' hw' => by
    have h' := rleft_spec t T l A l.length c i w' (HT.out.ext_ hw') (HI.out.ext hw')
    rw [hv] at h'
    exact h')
  have P1 : Hid (∀ (i : Int) v, rightV T l i = v → ∀ w', Ext w w' → Calls Tryz.prog 48 #[t.v, .slice A l.length c, .int .i64 i] w' fun e w'' => e = .returned (.int .i64 v) ∧ Ext w' w'') := Lib.hid (fun i v hv w' hw' => by
    have h' := right_spec t T l A l.length c i w' (HT.out.ext_ hw') (HI.out.ext hw')
    rw [hv] at h'
    exact h')
  have R1 : Hid (∀ (i : Int) v, rightV T l i = v → ∀ w', Ext w w' → Calls Tryz.prog 49 #[t.v, .slice A l.length c, .int .i64 i] w' fun e w'' => e = .returned (.int .i64 v) ∧ Ext w' w'') := Lib.hid (fun i v hv w' hw' => by
    have h' := rright_spec t T l A l.length c i w' (HT.out.ext_ hw') (HI.out.ext hw')
    rw [hv] at h'
    exact h')
  have P2 : Hid (∀ (i : Int) v, jpermB T l i = v → ∀ w', Ext w w' → Calls Tryz.prog 45 #[t.v, .slice A l.length c, .int .i64 i] w' fun e w'' => e = .returned (.bool v) ∧ Ext w' w'') := Lib.hid (fun i v hv w' hw' => by
    have h' := jpermitted_spec t T l A l.length c i w' (HT.out.ext_ hw') (HI.out.ext hw')
    rw [hv] at h'
    exact h')
  have R2 : Hid (∀ (i : Int) v, jpermB T l i = v → ∀ w', Ext w w' → Calls Tryz.prog 50 #[t.v, .slice A l.length c, .int .i64 i] w' fun e w'' => e = .returned (.bool v) ∧ Ext w' w'') := Lib.hid (fun i v hv w' hw' => by
    have h' := rjpermitted_spec t T l A l.length c i w' (HT.out.ext_ hw') (HI.out.ext hw')
    rw [hv] at h'
    exact h')
  have CP : Hid (∀ v, jcheck T l = v → ∀ w', Ext w w' → Calls Tryz.prog 43 #[t.v, .slice A l.length c] w' fun e w'' => e = .returned (.tuple #[.int .i64 v.1, .int .i64 v.2]) ∧ Ext w' w'') := Lib.hid (fun v hv w' hw' => by
    have h' := jcheck_spec t T l A l.length c w' (HT.out.ext_ hw') (HI.out.ext hw')
    rw [hv] at h'
    exact h')
  have CR : Hid (∀ v, jcheck T l = v → ∀ w', Ext w w' → Calls Tryz.prog 51 #[t.v, .slice A l.length c] w' fun e w'' => e = .returned (.tuple #[.int .i64 v.1, .int .i64 v.2]) ∧ Ext w' w'') := Lib.hid (fun v hv w' hw' => by
    have h' := rjcheck_spec t T l A l.length c w' (HT.out.ext_ hw') (HI.out.ext hw')
    rw [hv] at h'
    exact h')
  go_enter Tryz.func18, Tryz.ntmps18
  go_wp2_with fail
  go_loopw [7] (fun s7 wr => ∃ (i : Int), -1 ≤ i ∧ i ≤ 20 ∧ s7 = .int .i64 i ∧ Ext (w.alloc (.cells #[.slice t.s0.a t.s0.n t.s0.c, .slice t.s1.a t.s1.n t.s1.c, .slice t.s2.a t.s2.n t.s2.c, .slice t.s3.a t.s3.n t.s3.c, .slice t.s4.a t.s4.n t.s4.c, .slice t.s5.a t.s5.n t.s5.c, .slice t.s6.a t.s6.n t.s6.c, .slice t.s7.a t.s7.n t.s7.c, .slice t.s8.a t.s8.n t.s8.c, .slice t.s9.a t.s9.n t.s9.c, .slice t.s10.a t.s10.n t.s10.c, .slice t.s11.a t.s11.n t.s11.c] 26)) wr) (fun s7 _ => (20 - intOf s7).toNat)
  case atStart => exact ⟨-1, by omega, by omega, rfl, Ext.refl _⟩
  case round =>
    obtain ⟨i, hi1, hi2, rfl, hbr⟩ := hrel
    have HBR := Lib.hid hbr
    have HW := Lib.hid (hba.trans' hbr)
    clear hbr
    by_cases hc : i ≤ (l.length : Int) ∧ i < 20
    · have dc1 : decide (i ≤ (l.length : Int)) = true := decide_eq_true hc.1
      have dc2 : decide (i < 20) = true := decide_eq_true hc.2
      obtain ⟨hc1, hc2⟩ := hc
      have rT : ∀ z : ExtW wr, ∀ p : Nat, z.w.cell? ⟨w.heap.size, p, none⟩ = t.v.cells[p]? := fun z => box_at (HBR.out.trans' z.h)
      obtain ⟨u0, hu0⟩ : ∃ v, leftV T l (i) = v := ⟨_, rfl⟩
      have e0 : (u0 != u0) = false := by rw [bne_self_eq_false]
      have e0' : (u0 == u0) = true := by rw [beq_self_eq_true]
      have P0a : Hid (∀ z : ExtW wr, Calls Tryz.prog 46 #[t.v, .slice A l.length c, .int .i64 (i)] z.w fun e w'' => e = .returned (.int .i64 u0) ∧ Ext z.w w'') := Lib.hid (fun z => P0.out (i) u0 hu0 z.w (HW.out.trans' z.h))
      have R0a : Hid (∀ z : ExtW wr, Calls Tryz.prog 47 #[t.v, .slice A l.length c, .int .i64 (i)] z.w fun e w'' => e = .returned (.int .i64 u0) ∧ Ext z.w w'') := Lib.hid (fun z => R0.out (i) u0 hu0 z.w (HW.out.trans' z.h))
      obtain ⟨u1, hu1⟩ : ∃ v, rightV T l (i) = v := ⟨_, rfl⟩
      have e1 : (u1 != u1) = false := by rw [bne_self_eq_false]
      have e1' : (u1 == u1) = true := by rw [beq_self_eq_true]
      have P1a : Hid (∀ z : ExtW wr, Calls Tryz.prog 48 #[t.v, .slice A l.length c, .int .i64 (i)] z.w fun e w'' => e = .returned (.int .i64 u1) ∧ Ext z.w w'') := Lib.hid (fun z => P1.out (i) u1 hu1 z.w (HW.out.trans' z.h))
      have R1a : Hid (∀ z : ExtW wr, Calls Tryz.prog 49 #[t.v, .slice A l.length c, .int .i64 (i)] z.w fun e w'' => e = .returned (.int .i64 u1) ∧ Ext z.w w'') := Lib.hid (fun z => R1.out (i) u1 hu1 z.w (HW.out.trans' z.h))
      obtain ⟨u2, hu2⟩ : ∃ v, jpermB T l (i) = v := ⟨_, rfl⟩
      have e2 : (u2 != u2) = false := by rw [bne_self_eq_false]
      have e2' : (u2 == u2) = true := by rw [beq_self_eq_true]
      have P2a : Hid (∀ z : ExtW wr, Calls Tryz.prog 45 #[t.v, .slice A l.length c, .int .i64 (i)] z.w fun e w'' => e = .returned (.bool u2) ∧ Ext z.w w'') := Lib.hid (fun z => P2.out (i) u2 hu2 z.w (HW.out.trans' z.h))
      have R2a : Hid (∀ z : ExtW wr, Calls Tryz.prog 50 #[t.v, .slice A l.length c, .int .i64 (i)] z.w fun e w'' => e = .returned (.bool u2) ∧ Ext z.w w'') := Lib.hid (fun z => R2.out (i) u2 hu2 z.w (HW.out.trans' z.h))
      clear hu0 hu1 hu2
      obtain ⟨wo, rfl⟩ : ∃ wo : World, wo = wr := ⟨_, rfl⟩
      go_wp2_with fail
      refine region_ext (by kernel_rfl) (by kernel_rfl) ?_
      repeat (go_big_quiet_step (first | (go_at_call 46; with_reducible exact quiet_ext (P0a.out _)) | (go_at_call 47; with_reducible exact quiet_ext (R0a.out _)) | (go_at_call 48; with_reducible exact quiet_ext (P1a.out _)) | (go_at_call 49; with_reducible exact quiet_ext (R1a.out _)) | (go_at_call 45; with_reducible exact quiet_ext (P2a.out _)) | (go_at_call 50; with_reducible exact quiet_ext (R2a.out _))))
      refine wpQuiet_nil ?_
      rintro _ ⟨z, rfl⟩
      clear rT
      go_wp2_with fail
      go_roundw
      case rel => exact ⟨i + 1, by omega, by omega, by go_num, HBR.out.trans' z.h⟩
      case measure => simp [intOf]; omega
    · have hF : ∀ b1 b2, decide (i ≤ (l.length : Int)) = b1 → decide (i < 20) = b2 → (b1 && b2) = false := fun b1 b2 h1 h2 => by
        rw [← h1, ← h2, ← Bool.decide_and]
        exact decide_eq_false hc
      obtain ⟨b1, k1⟩ : ∃ b, decide (i ≤ (l.length : Int)) = b := ⟨_, rfl⟩
      obtain ⟨b2, k2⟩ : ∃ b, decide (i < 20) = b := ⟨_, rfl⟩
      have hF2 := hF b1 b2 k1 k2
      clear hF hc
      obtain ⟨cv, hcv⟩ : ∃ v, jcheck T l = v := ⟨_, rfl⟩
      obtain ⟨c1, c2⟩ := cv
      have f1 : (c1 == c1) = true := by rw [beq_self_eq_true]
      have f2 : (c2 == c2) = true := by rw [beq_self_eq_true]
      have CP1 := Lib.hid (CP.out (c1, c2) hcv)
      have CR1 := Lib.hid (CR.out (c1, c2) hcv)
      clear hcv
      have rTr : ∀ p : Nat, wr.cell? ⟨w.heap.size, p, none⟩ = t.v.cells[p]? := box_at HBR.out
      cases b1 <;> cases b2
      case true.true => cases hF2
      all_goals
        clear hF2
        go_wp2_with fail
        refine (CP1.out _ HW.out).mono ?_
        rintro e w2 ⟨rfl, hb2⟩
        have HB2 := Lib.hid (HW.out.trans' hb2)
        have rT2 : ∀ p : Nat, w2.cell? ⟨w.heap.size, p, none⟩ = t.v.cells[p]? := box_at (HBR.out.trans' hb2)
        go_wp2_with fail
        refine (CR1.out _ HB2.out).mono ?_
        rintro e w3 ⟨rfl, hb3⟩
        have HB3 := Lib.hid (HB2.out.trans' hb3)
        have HX3 := Lib.hid (HBR.out.trans' (hb2.trans' hb3))
        go_wp2_with fail
        have rT : ∀ z : ExtW w3, ∀ p : Nat, z.w.cell? ⟨w.heap.size, p, none⟩ = t.v.cells[p]? := fun z => box_at (HX3.out.trans' z.h)
        obtain ⟨u0, hu0⟩ : ∃ v, leftV T l (raw) = v := ⟨_, rfl⟩
        have e0 : (u0 != u0) = false := by rw [bne_self_eq_false]
        have e0' : (u0 == u0) = true := by rw [beq_self_eq_true]
        have P0b : Hid (∀ z : ExtW w3, Calls Tryz.prog 46 #[t.v, .slice A l.length c, .int .i64 (raw)] z.w fun e w'' => e = .returned (.int .i64 u0) ∧ Ext z.w w'') := Lib.hid (fun z => P0.out (raw) u0 hu0 z.w (HB3.out.trans' z.h))
        have R0b : Hid (∀ z : ExtW w3, Calls Tryz.prog 47 #[t.v, .slice A l.length c, .int .i64 (raw)] z.w fun e w'' => e = .returned (.int .i64 u0) ∧ Ext z.w w'') := Lib.hid (fun z => R0.out (raw) u0 hu0 z.w (HB3.out.trans' z.h))
        obtain ⟨u1, hu1⟩ : ∃ v, rightV T l (raw) = v := ⟨_, rfl⟩
        have e1 : (u1 != u1) = false := by rw [bne_self_eq_false]
        have e1' : (u1 == u1) = true := by rw [beq_self_eq_true]
        have P1b : Hid (∀ z : ExtW w3, Calls Tryz.prog 48 #[t.v, .slice A l.length c, .int .i64 (raw)] z.w fun e w'' => e = .returned (.int .i64 u1) ∧ Ext z.w w'') := Lib.hid (fun z => P1.out (raw) u1 hu1 z.w (HB3.out.trans' z.h))
        have R1b : Hid (∀ z : ExtW w3, Calls Tryz.prog 49 #[t.v, .slice A l.length c, .int .i64 (raw)] z.w fun e w'' => e = .returned (.int .i64 u1) ∧ Ext z.w w'') := Lib.hid (fun z => R1.out (raw) u1 hu1 z.w (HB3.out.trans' z.h))
        obtain ⟨u2, hu2⟩ : ∃ v, jpermB T l (raw) = v := ⟨_, rfl⟩
        have e2 : (u2 != u2) = false := by rw [bne_self_eq_false]
        have e2' : (u2 == u2) = true := by rw [beq_self_eq_true]
        have P2b : Hid (∀ z : ExtW w3, Calls Tryz.prog 45 #[t.v, .slice A l.length c, .int .i64 (raw)] z.w fun e w'' => e = .returned (.bool u2) ∧ Ext z.w w'') := Lib.hid (fun z => P2.out (raw) u2 hu2 z.w (HB3.out.trans' z.h))
        have R2b : Hid (∀ z : ExtW w3, Calls Tryz.prog 50 #[t.v, .slice A l.length c, .int .i64 (raw)] z.w fun e w'' => e = .returned (.bool u2) ∧ Ext z.w w'') := Lib.hid (fun z => R2.out (raw) u2 hu2 z.w (HB3.out.trans' z.h))
        clear hu0 hu1 hu2
        clear rTr rT2
        refine region_ext (by kernel_rfl) (by kernel_rfl) ?_
        repeat (go_big_quiet_step (first | (go_at_call 46; with_reducible exact quiet_ext (P0b.out _)) | (go_at_call 47; with_reducible exact quiet_ext (R0b.out _)) | (go_at_call 48; with_reducible exact quiet_ext (P1b.out _)) | (go_at_call 49; with_reducible exact quiet_ext (R1b.out _)) | (go_at_call 45; with_reducible exact quiet_ext (P2b.out _)) | (go_at_call 50; with_reducible exact quiet_ext (R2b.out _))))
        refine wpQuiet_nil ?_
        rintro _ ⟨z, rfl⟩
        clear rT
        go_wp2_with fail
        go_ret
        exact ⟨rfl, HB3.out.trans' z.h⟩
end Go.Proofs.YtmgckljgkdahfaaGreatDoor
