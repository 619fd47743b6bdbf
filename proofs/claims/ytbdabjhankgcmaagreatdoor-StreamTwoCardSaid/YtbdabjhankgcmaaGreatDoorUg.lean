/- Walks: compose.Pair, compose.Second and the reference's. -/
import Derived.Test.YtbdabjhankgcmaaGreatDoorGu
import Derived.Test.YtbdabjhankgcmaaGreatDoorGy
import Derived.Test.YtbdabjhankgcmaaGreatDoorCk
namespace Go.Proofs.YtbdabjhankgcmaaGreatDoor
open Go.RowKit
def pairC (T : Tbl) (a b : Int) : Int × Bool := if wfB T = true then pairV T a b else (0, false)
def secC (T : Tbl) (c : Int) : Bool := wfB T && secT T c
theorem chk_ne {T : Tbl} (hw : wfB T = false) : (checkNo T != 0) = true := by
 rw [bne_iff_ne]
 exact fun h => by have := (checkNo_zero T).1 h; rw [hw] at this; cases this
theorem chk_ne' {T : Tbl} (hw : wfB T = false) : (checkNo T == 0) = false := by
 rw [beq_eq_false_iff_ne]
 exact fun h => by have := (checkNo_zero T).1 h; rw [hw] at this; cases this
set_option maxHeartbeats 1600000 in
set_option maxRecDepth 100000 in
theorem csecC_spec (t : TV) (T : Tbl) (c : Int) (w : World) (ht : TblS w t T) :
  Calls Tryz.prog 67 #[t.v, .int .i64 c] w fun e w' => e = .returned (.bool (secC T c)) ∧ Ext w w' := by
 have hba := tw_ext w t
 have HT := Lib.hid (ht.ext_ hba)
 have HC := Lib.hid (check_spec t T _ HT.out)
 clear ht
 cases hw : wfB T
 ·have HV : Hid (secC T c = false) := Lib.hid (by rw [secC, hw]; rfl)
  have hv := chk_ne' hw
  clear hw
  go_enter Tryz.func67, Tryz.ntmps67
  go_wp2_with fail
  refine HC.out.mono ?_
  rintro e w1 ⟨rfl, hb1⟩
  have hb := hba.trans' hb1
  clear hb1
  go_wp2_with fail
  go_ret
  exact ⟨ret_bool HV.out.symm, hb⟩
 ·have HV : Hid (secC T c = secT T c) := Lib.hid (by rw [secC, hw, Bool.true_and])
  have HW := Lib.hid hw
  have h0 := (checkNo_zero T).2 hw
  rw [h0] at HC
  clear hw h0
  go_enter Tryz.func67, Tryz.ntmps67
  go_wp2_with fail
  refine HC.out.mono ?_
  rintro e w1 ⟨rfl, hb1⟩
  have HB1 := Lib.hid hb1
  have rT : ∀ k : Nat, w1.cell? ⟨w.heap.size, k, none⟩ = t.v.cells[k]? := box_at hb1
  clear hb1
  go_wp2_with fail
  refine (collect_spec t T _ (HT.out.ext_ HB1.out) HW.out).mono ?_
  rintro e w2 ⟨r, rfl, _, hpm, hb2⟩
  have HPM := Lib.hid hpm
  have HB2 := Lib.hid hb2
  clear hb2 hpm rT
  go_wp2_with fail
  refine (second_spec T r c _ HPM.out).mono ?_
  rintro e w3 ⟨rfl, hb3⟩
  have hb := (hba.trans' HB1.out).trans' (HB2.out.trans' hb3)
  clear hb3
  go_wp2_with fail
  go_ret
  exact ⟨ret_bool HV.out.symm, hb⟩
end Go.Proofs.YtbdabjhankgcmaaGreatDoor
