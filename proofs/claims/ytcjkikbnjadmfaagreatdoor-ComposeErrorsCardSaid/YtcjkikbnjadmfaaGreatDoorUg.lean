/- Walks: compose.Pair, compose.Second and the reference's. -/
import Derived.Test.YtcjkikbnjadmfaaGreatDoorGu
import Derived.Test.YtcjkikbnjadmfaaGreatDoorGy
import Derived.Test.YtcjkikbnjadmfaaGreatDoorCk
namespace Go.Proofs.YtcjkikbnjadmfaaGreatDoor
open Go.RowKit

/-- What Pair and Second return. -/
def pairC (T : Tbl) (a b : Int) : Int × Bool := if wfB T = true then pairV T a b else (0, false)
def secC (T : Tbl) (c : Int) : Bool := wfB T && secT T c
theorem chk_ne {T : Tbl} (hw : wfB T = false) : (checkNo T != 0) = true := by
  rw [bne_iff_ne]
  exact fun h => by have := (checkNo_zero T).1 h; rw [hw] at this; cases this
theorem chk_ne' {T : Tbl} (hw : wfB T = false) : (checkNo T == 0) = false := by
  rw [beq_eq_false_iff_ne]
  exact fun h => by have := (checkNo_zero T).1 h; rw [hw] at this; cases this

set_option maxHeartbeats 1600000 in
set_option maxRecDepth 100000 in
theorem rpairC_spec (t : TV) (T : Tbl) (a b : Int) (w : World) (ht : TblS w t T) :
    Calls Tryz.prog 27 #[t.v, .int .i64 a, .int .i64 b] w fun e w' => e = .returned (.tuple #[.int .i64 (pairC T a b).1, .bool (pairC T a b).2]) ∧ Ext w w' := by
  have hba : Ext w (w.alloc (.cells #[.slice t.s0.a t.s0.n t.s0.c, .slice t.s1.a t.s1.n t.s1.c, .slice t.s2.a t.s2.n t.s2.c, .slice t.s3.a t.s3.n t.s3.c, .slice t.s4.a t.s4.n t.s4.c, .slice t.s5.a t.s5.n t.s5.c, .slice t.s6.a t.s6.n t.s6.c, .slice t.s7.a t.s7.n t.s7.c, .slice t.s8.a t.s8.n t.s8.c, .slice t.s9.a t.s9.n t.s9.c, .slice t.s10.a t.s10.n t.s10.c, .slice t.s11.a t.s11.n t.s11.c] 26)) := (Ext.refl _).alloc_ _
  have HT := Lib.hid (ht.ext_ hba)
  have HC := Lib.hid (rcheck_spec t T _ HT.out)
  clear ht
  cases hw : wfB T
  · have HV : Hid (pairC T a b = (0, false)) := Lib.hid (by rw [pairC, hw]; rfl)
    have hv := chk_ne hw
    clear hw
    go_enter Tryz.func27, Tryz.ntmps27
    go_wp2_with fail
    refine HC.out.mono ?_
    rintro e w1 ⟨rfl, hb1⟩
    have hb := hba.trans' hb1
    clear hb1
    go_wp2_with fail
    go_ret2
    exact ⟨by rw [HV.out]; rfl, hb⟩
  · have HV : Hid (pairC T a b = pairV T a b) := Lib.hid (by rw [pairC, if_pos hw])
    have HW := Lib.hid hw
    have h0 := (checkNo_zero T).2 hw
    rw [h0] at HC
    clear hw h0
    go_enter Tryz.func27, Tryz.ntmps27
    go_wp2_with fail
    refine HC.out.mono ?_
    rintro e w1 ⟨rfl, hb1⟩
    have HB1 := Lib.hid hb1
    have rT : ∀ k : Nat, w1.cell? ⟨w.heap.size, k, none⟩ = t.v.cells[k]? := box_at hb1
    clear hb1
    go_wp2_with fail
    refine (rpair_spec T HW.out t a b _ (HT.out.ext_ HB1.out)).mono ?_
    rintro e w2 ⟨rfl, hb2⟩
    have hb := (hba.trans' HB1.out).trans' hb2
    clear hb2 rT
    go_wp2_with fail
    go_ret2
    exact ⟨by rw [HV.out]; rfl, hb⟩

set_option maxHeartbeats 1600000 in
set_option maxRecDepth 100000 in
theorem cpairC_spec (t : TV) (T : Tbl) (a b : Int) (w : World) (ht : TblS w t T) :
    Calls Tryz.prog 26 #[t.v, .int .i64 a, .int .i64 b] w fun e w' => e = .returned (.tuple #[.int .i64 (pairC T a b).1, .bool (pairC T a b).2]) ∧ Ext w w' := by
  have hba : Ext w (w.alloc (.cells #[.slice t.s0.a t.s0.n t.s0.c, .slice t.s1.a t.s1.n t.s1.c, .slice t.s2.a t.s2.n t.s2.c, .slice t.s3.a t.s3.n t.s3.c, .slice t.s4.a t.s4.n t.s4.c, .slice t.s5.a t.s5.n t.s5.c, .slice t.s6.a t.s6.n t.s6.c, .slice t.s7.a t.s7.n t.s7.c, .slice t.s8.a t.s8.n t.s8.c, .slice t.s9.a t.s9.n t.s9.c, .slice t.s10.a t.s10.n t.s10.c, .slice t.s11.a t.s11.n t.s11.c] 26)) := (Ext.refl _).alloc_ _
  have HT := Lib.hid (ht.ext_ hba)
  have HC := Lib.hid (check_spec t T _ HT.out)
  clear ht
  cases hw : wfB T
  · have HV : Hid (pairC T a b = (0, false)) := Lib.hid (by rw [pairC, hw]; rfl)
    have hv := chk_ne hw
    clear hw
    go_enter Tryz.func26, Tryz.ntmps26
    go_wp2_with fail
    refine HC.out.mono ?_
    rintro e w1 ⟨rfl, hb1⟩
    have hb := hba.trans' hb1
    clear hb1
    go_wp2_with fail
    go_ret2
    exact ⟨by rw [HV.out]; rfl, hb⟩
  · have HV : Hid (pairC T a b = pairV T a b) := Lib.hid (by rw [pairC, if_pos hw])
    have HW := Lib.hid hw
    have h0 := (checkNo_zero T).2 hw
    rw [h0] at HC
    clear hw h0
    go_enter Tryz.func26, Tryz.ntmps26
    go_wp2_with fail
    refine HC.out.mono ?_
    rintro e w1 ⟨rfl, hb1⟩
    have HB1 := Lib.hid hb1
    have rT : ∀ k : Nat, w1.cell? ⟨w.heap.size, k, none⟩ = t.v.cells[k]? := box_at hb1
    clear hb1
    go_wp2_with fail
    refine (collect_spec t T _ (HT.out.ext_ HB1.out) HW.out).mono ?_
    rintro e w2 ⟨r, rfl, _, hpm, hb2⟩
    have HPM := Lib.hid hpm
    have HB2 := Lib.hid hb2
    clear hb2 hpm rT
    go_wp2_with fail
    refine (pair_spec T r a b _ HPM.out).mono ?_
    rintro e w3 ⟨rfl, hb3⟩
    have hb := (hba.trans' HB1.out).trans' (HB2.out.trans' hb3)
    clear hb3
    go_wp2_with fail
    go_ret2
    exact ⟨by rw [HV.out]; rfl, hb⟩

set_option maxHeartbeats 1600000 in
set_option maxRecDepth 100000 in
theorem rsecC_spec (t : TV) (T : Tbl) (c : Int) (w : World) (ht : TblS w t T) :
    Calls Tryz.prog 25 #[t.v, .int .i64 c] w fun e w' => e = .returned (.bool (secC T c)) ∧ Ext w w' := by
  have hba : Ext w (w.alloc (.cells #[.slice t.s0.a t.s0.n t.s0.c, .slice t.s1.a t.s1.n t.s1.c, .slice t.s2.a t.s2.n t.s2.c, .slice t.s3.a t.s3.n t.s3.c, .slice t.s4.a t.s4.n t.s4.c, .slice t.s5.a t.s5.n t.s5.c, .slice t.s6.a t.s6.n t.s6.c, .slice t.s7.a t.s7.n t.s7.c, .slice t.s8.a t.s8.n t.s8.c, .slice t.s9.a t.s9.n t.s9.c, .slice t.s10.a t.s10.n t.s10.c, .slice t.s11.a t.s11.n t.s11.c] 26)) := (Ext.refl _).alloc_ _
  have HT := Lib.hid (ht.ext_ hba)
  have HC := Lib.hid (rcheck_spec t T _ HT.out)
  clear ht
  cases hw : wfB T
  · have HV : Hid (secC T c = false) := Lib.hid (by rw [secC, hw]; rfl)
    have hv := chk_ne' hw
    clear hw
    go_enter Tryz.func25, Tryz.ntmps25
    go_wp2_with fail
    refine HC.out.mono ?_
    rintro e w1 ⟨rfl, hb1⟩
    have hb := hba.trans' hb1
    clear hb1
    go_wp2_with fail
    go_ret
    exact ⟨ret_bool HV.out.symm, hb⟩
  · have HV : Hid (secC T c = secT T c) := Lib.hid (by rw [secC, hw, Bool.true_and])
    have HW := Lib.hid hw
    have h0 := (checkNo_zero T).2 hw
    rw [h0] at HC
    clear hw h0
    go_enter Tryz.func25, Tryz.ntmps25
    go_wp2_with fail
    refine HC.out.mono ?_
    rintro e w1 ⟨rfl, hb1⟩
    have HB1 := Lib.hid hb1
    have rT : ∀ k : Nat, w1.cell? ⟨w.heap.size, k, none⟩ = t.v.cells[k]? := box_at hb1
    clear hb1
    go_wp2_with fail
    refine (rsecond_spec T HW.out t c _ (HT.out.ext_ HB1.out)).mono ?_
    rintro e w2 ⟨rfl, hb2⟩
    have hb := (hba.trans' HB1.out).trans' hb2
    clear hb2 rT
    go_wp2_with fail
    go_ret
    exact ⟨ret_bool HV.out.symm, hb⟩

set_option maxHeartbeats 1600000 in
set_option maxRecDepth 100000 in
theorem csecC_spec (t : TV) (T : Tbl) (c : Int) (w : World) (ht : TblS w t T) :
    Calls Tryz.prog 24 #[t.v, .int .i64 c] w fun e w' => e = .returned (.bool (secC T c)) ∧ Ext w w' := by
  have hba : Ext w (w.alloc (.cells #[.slice t.s0.a t.s0.n t.s0.c, .slice t.s1.a t.s1.n t.s1.c, .slice t.s2.a t.s2.n t.s2.c, .slice t.s3.a t.s3.n t.s3.c, .slice t.s4.a t.s4.n t.s4.c, .slice t.s5.a t.s5.n t.s5.c, .slice t.s6.a t.s6.n t.s6.c, .slice t.s7.a t.s7.n t.s7.c, .slice t.s8.a t.s8.n t.s8.c, .slice t.s9.a t.s9.n t.s9.c, .slice t.s10.a t.s10.n t.s10.c, .slice t.s11.a t.s11.n t.s11.c] 26)) := (Ext.refl _).alloc_ _
  have HT := Lib.hid (ht.ext_ hba)
  have HC := Lib.hid (check_spec t T _ HT.out)
  clear ht
  cases hw : wfB T
  · have HV : Hid (secC T c = false) := Lib.hid (by rw [secC, hw]; rfl)
    have hv := chk_ne' hw
    clear hw
    go_enter Tryz.func24, Tryz.ntmps24
    go_wp2_with fail
    refine HC.out.mono ?_
    rintro e w1 ⟨rfl, hb1⟩
    have hb := hba.trans' hb1
    clear hb1
    go_wp2_with fail
    go_ret
    exact ⟨ret_bool HV.out.symm, hb⟩
  · have HV : Hid (secC T c = secT T c) := Lib.hid (by rw [secC, hw, Bool.true_and])
    have HW := Lib.hid hw
    have h0 := (checkNo_zero T).2 hw
    rw [h0] at HC
    clear hw h0
    go_enter Tryz.func24, Tryz.ntmps24
    go_wp2_with fail
    refine HC.out.mono ?_
    rintro e w1 ⟨rfl, hb1⟩
    have HB1 := Lib.hid hb1
    have rT : ∀ k : Nat, w1.cell? ⟨w.heap.size, k, none⟩ = t.v.cells[k]? := box_at hb1
    clear hb1
    go_wp2_with fail
    refine (collect_spec t T _ (HT.out.ext_ HB1.out) HW.out).mono ?_
    rintro e w2 ⟨r, rfl, _, hpm, hb2⟩
    have HPM := Lib.hid hpm
    have HB2 := Lib.hid hb2
    clear hb2 hpm rT
    go_wp2_with fail
    refine (second_spec T r c _ HPM.out).mono ?_
    rintro e w3 ⟨rfl, hb3⟩
    have hb := (hba.trans' HB1.out).trans' (HB2.out.trans' hb3)
    clear hb3
    go_wp2_with fail
    go_ret
    exact ⟨ret_bool HV.out.symm, hb⟩
end Go.Proofs.YtcjkikbnjadmfaaGreatDoor
