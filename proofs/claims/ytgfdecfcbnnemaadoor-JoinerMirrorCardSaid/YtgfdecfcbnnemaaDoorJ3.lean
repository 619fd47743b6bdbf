/- Walks: joiner.Permitted, joiner.Check. -/
import Derived.Test.YtgfdecfcbnnemaaDoorJ2
namespace Go.Proofs.YtgfdecfcbnnemaaDoor
open Go.RowKit

set_option maxHeartbeats 1600000 in
set_option maxRecDepth 100000 in
theorem jpermitted_spec (t : TV) (T : Tbl) (l : List Int) (A : Option Addr) (n c : Nat) (i : Int) (w : World) (ht : TblS w t T) (h : IntS w ⟨A, n, c⟩ l) :
    Calls Tryd.prog 13 #[t.v, .slice A n c, .int .i64 i] w fun e w' => e = .returned (.bool (jpermB T l i)) ∧ Ext w w' := by
  have HT := Lib.hid ht
  have HI := Lib.hid h
  have hba : Ext w (w.alloc (.cells #[.slice t.s0.a t.s0.n t.s0.c, .slice t.s1.a t.s1.n t.s1.c, .slice t.s2.a t.s2.n t.s2.c, .slice t.s3.a t.s3.n t.s3.c, .slice t.s4.a t.s4.n t.s4.c, .slice t.s5.a t.s5.n t.s5.c, .slice t.s6.a t.s6.n t.s6.c, .slice t.s7.a t.s7.n t.s7.c, .slice t.s8.a t.s8.n t.s8.c, .slice t.s9.a t.s9.n t.s9.c, .slice t.s10.a t.s10.n t.s10.c, .slice t.s11.a t.s11.n t.s11.c] 26)) := (Ext.refl _).alloc_ _
  go_enter Tryd.func13, Tryd.ntmps13
  go_wp2_with fail
  refine (exists_spec t T l A _ c i _ (HT.out.ext_ hba) (HI.out.ext hba)).mono ?_
  rintro e w1 ⟨rfl, hb1⟩
  have hb01 := hba.trans' hb1
  have rT : ∀ k : Nat, w1.cell? ⟨w.heap.size, k, none⟩ = t.v.cells[k]? := box_at hb1
  cases hx : existsB T l i
  · have HF : Hid (jpermB T l i = false) := Lib.hid (by simp [jpermB, hx])
    clear hx
    go_wp2_with fail
    go_ret
    exact ⟨ret_bool HF.out.symm, hb01⟩
  · obtain ⟨k, rfl, hk, hz⟩ := existsB_true hx
    have HF : Hid (jpermB T l k = jper T l k) := Lib.hid (by simp [jpermB, hx])
    have HW := Lib.hid (wf_srt hz)
    clear hx hz
    go_wp2_with (go_at_call 36; refine (jper_spec t T l A _ c k _ (HT.out.ext_ hb01) HW.out (HI.out.ext hb01) hk).mono ?_; rintro e w2 ⟨rfl, hb2⟩)
    go_ret
    exact ⟨ret_bool HF.out.symm, hb01.trans' hb2⟩

theorem jchk_le (T : Tbl) (l : List Int) : ∀ n i, jchk T l n i = (0, 0) ∨ ∃ k : Nat, jchk T l n i = ((k : Int), 17)
  | 0, _ => .inl rfl
  | n + 1, i => by
    simp only [jchk]
    by_cases h : jper T l i = true
    · rw [if_pos h]; exact jchk_le T l n (i + 1)
    · rw [if_neg h]; exact .inr ⟨(i : Nat), rfl⟩

set_option maxHeartbeats 1600000 in
set_option maxRecDepth 100000 in
theorem jcheck_spec (t : TV) (T : Tbl) (l : List Int) (A : Option Addr) (n c : Nat) (w : World) (ht : TblS w t T) (h : IntS w ⟨A, n, c⟩ l) :
    Calls Tryd.prog 16 #[t.v, .slice A n c] w fun e w' => e = .returned (.tuple #[.int .i64 (jcheck T l).1, .int .i64 (jcheck T l).2]) ∧ Ext w w' := by
  obtain ⟨hn, _, _⟩ := h.len
  subst hn
  have HT := Lib.hid ht
  have HI := Lib.hid h
  have hba : Ext w (w.alloc (.cells #[.slice t.s0.a t.s0.n t.s0.c, .slice t.s1.a t.s1.n t.s1.c, .slice t.s2.a t.s2.n t.s2.c, .slice t.s3.a t.s3.n t.s3.c, .slice t.s4.a t.s4.n t.s4.c, .slice t.s5.a t.s5.n t.s5.c, .slice t.s6.a t.s6.n t.s6.c, .slice t.s7.a t.s7.n t.s7.c, .slice t.s8.a t.s8.n t.s8.c, .slice t.s9.a t.s9.n t.s9.c, .slice t.s10.a t.s10.n t.s10.c, .slice t.s11.a t.s11.n t.s11.c] 26)) := (Ext.refl _).alloc_ _
  go_enter Tryd.func16, Tryd.ntmps16
  go_wp2_with fail
  refine (order_spec t T l A _ c _ (HT.out.ext_ hba) (HI.out.ext hba)).mono ?_
  rintro e w1 ⟨v, rfl, hb1, _⟩
  have hb01 := hba.trans' hb1
  by_cases hz : ordErr T l = 0
  · have HW := Lib.hid (wf_srt (ord_wf hz).1)
    have HB : Hid (jcheck T l = jchk T l (l.length - 0) 0) := Lib.hid (by simp [jcheck, hz])
    rw [hz]
    clear hz
    go_wp2_with fail
    go_loopw [20] (fun j wr => ∃ (k : Nat), k ≤ l.length ∧ j = .int .i64 k ∧ Hid (jcheck T l = jchk T l (l.length - k) k) ∧ Ext (w.alloc (.cells #[.slice t.s0.a t.s0.n t.s0.c, .slice t.s1.a t.s1.n t.s1.c, .slice t.s2.a t.s2.n t.s2.c, .slice t.s3.a t.s3.n t.s3.c, .slice t.s4.a t.s4.n t.s4.c, .slice t.s5.a t.s5.n t.s5.c, .slice t.s6.a t.s6.n t.s6.c, .slice t.s7.a t.s7.n t.s7.c, .slice t.s8.a t.s8.n t.s8.c, .slice t.s9.a t.s9.n t.s9.c, .slice t.s10.a t.s10.n t.s10.c, .slice t.s11.a t.s11.n t.s11.c] 26)) wr) (fun j _ => l.length - (intOf j).toNat)
    case atStart => exact ⟨0, Nat.zero_le _, rfl, HB, hb1⟩
    case round =>
      obtain ⟨k, hk, rfl, HR, hbr⟩ := hrel
      have hb0 := hba.trans' hbr
      have rT : ∀ k : Nat, wr.cell? ⟨w.heap.size, k, none⟩ = t.v.cells[k]? := box_at hbr
      by_cases hlt : k < l.length
      · have HS := hid_trans HR (show _ = if jper T l k = true then jchk T l (l.length - (k + 1)) (k + 1) else ((k : Int), (17 : Int)) from by
          rw [show l.length - k = (l.length - (k + 1)) + 1 from by omega]; rfl)
        clear HR HB
        cases hv : jper T l k
        · have HF := hid_trans HS (show _ = ((k : Int), (17 : Int)) from by rw [hv]; simp)
          have HV := Lib.hid hv
          clear HS hv
          go_wp2_with (go_at_call 36; refine (jper_spec t T l A _ c k _ (HT.out.ext_ hb0) HW.out (HI.out.ext hb0) hlt).mono ?_; rintro e w2 ⟨rfl, hb2⟩; rw [HV.out])
          go_ret2
          exact ⟨by rw [HF.out]; rfl, hb0.trans' hb2⟩
        · have HF := hid_trans HS (show _ = jchk T l (l.length - (k + 1)) (k + 1) from by rw [hv]; simp)
          have HV := Lib.hid hv
          clear HS hv
          go_wp2_with (go_at_call 36; refine (jper_spec t T l A _ c k _ (HT.out.ext_ hb0) HW.out (HI.out.ext hb0) hlt).mono ?_; rintro e w2 ⟨rfl, hb2⟩; rw [HV.out])
          go_roundw
          case rel => exact ⟨k + 1, by omega, by go_num, HF, hbr.trans' hb2⟩
          case measure => simp [intOf]; omega
      · have HF := hid_trans HR (show _ = ((0 : Int), (0 : Int)) from by rw [show l.length - k = 0 from by omega]; rfl)
        clear HR HB
        go_wp2_with fail
        go_ret2
        exact ⟨by rw [HF.out]; rfl, hb0⟩
  · have hzb : (ordErr T l == 0) = false := by rw [beq_eq_false_iff_ne]; exact hz
    have HF : Hid (jcheck T l = (0, ordErr T l)) := Lib.hid (by simp [jcheck, hz])
    clear hz
    go_wp2_with fail
    go_ret2
    exact ⟨by rw [HF.out]; rfl, hb01⟩
end Go.Proofs.YtgfdecfcbnnemaaDoor
