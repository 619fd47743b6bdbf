/- Walks: decompose.One; Boundary, of the program and of the reference. (By program: sb_gen.py.) -/
import Derived.Test.YtbdabjhankgcmaaGreatDoorUg
import Derived.Test.YtbdabjhankgcmaaGreatDoorGu
import Derived.Test.YtbdabjhankgcmaaGreatDoorZs
namespace Go.Proofs.YtbdabjhankgcmaaGreatDoor
open Go.RowKit
set_option maxHeartbeats 1600000 in
set_option maxRecDepth 100000 in
theorem done_spec (T : Tbl) (t : TV) (c : Int) (w : World) (ht : TblS w t T) :
  Calls Tryz.prog 65 #[t.v, .int .i64 c] w fun e w' => ∃ A n q, e = .returned (.slice A n q) ∧ IntS w' ⟨A, n, q⟩ (oneT T c) ∧ Ext w w' := by
 have hba := tw_ext w t
 have HT := Lib.hid (ht.ext_ hba)
 clear ht
 cases hs : scalarB c
 ·have HV : Hid (oneT T c = []) := Lib.hid (by rw [oneT, hs]; rfl)
  have HU := Lib.hid ((utfLen_eq_zero c).2 hs)
  clear hs
  go_enter Tryz.func65, Tryz.ntmps65
  go_wp2_with (go_at_call 71; refine (length_spec _ _).mono ?_; rintro e w' ⟨rfl, rfl⟩; rw [HU.out])
  go_ret
  exact ⟨none, 0, 0, rfl, by rw [HV.out]; exact IntS.nil_ _, hba⟩
 ·have HC := Lib.hid (check_spec t T _ HT.out)
  have hu : (utfLen c == 0) = false := by rw [beq_eq_false_iff_ne]; intro h; have := (utfLen_eq_zero c).1 h; rw [hs] at this; cases this
  cases hw : wfB T
  ·have HV : Hid (oneT T c = []) := Lib.hid (by rw [oneT, hs, hw]; rfl)
   have hv := chk_ne hw
   clear hw hs
   go_enter Tryz.func65, Tryz.ntmps65
   go_wp2_with (first
    | (go_at_call 71; refine (length_spec _ _).mono ?_; rintro e w' ⟨rfl, rfl⟩)
    | (go_at_call 63; refine HC.out.mono ?_; rintro e w1 ⟨rfl, hb1⟩; have hb := hba.trans' hb1))
   go_ret
   exact ⟨none, 0, 0, rfl, by rw [HV.out]; exact IntS.nil_ _, hb⟩
  ·have HV : Hid (oneT T c = expT T c) := Lib.hid (by rw [oneT, hs, hw]; rfl)
   have HW := Lib.hid hw
   rw [(checkNo_zero T).2 hw] at HC
   clear hw hs
   go_enter Tryz.func65, Tryz.ntmps65
   go_wp2_with (first
    | (go_at_call 71; refine (length_spec _ _).mono ?_; rintro e w' ⟨rfl, rfl⟩)
    | (go_at_call 63; refine HC.out.mono ?_; rintro e w1 ⟨rfl, hb1⟩; have HB1 := Lib.hid hb1; have rT : ∀ k : Nat, w1.cell? ⟨w.heap.size, k, none⟩ = t.v.cells[k]? := box_at hb1; clear hb1)
    | (go_at_call 110; refine (full_spec T HW.out t c _ (HT.out.ext_ HB1.out)).mono ?_; rintro e w2 ⟨A, n, q, rfl, hi, hb2⟩; have HI := Lib.hid hi; have hb := (hba.trans' HB1.out).trans' hb2; clear hi hb2))
   go_ret
   exact ⟨A, n, q, rfl, by rw [HV.out]; exact HI.out, hb⟩
theorem bnd_none {T : Tbl} {c : Int} (h : oneT T c = []) : bndB T c = false := by
 refine bnd_no ?_
 obtain ⟨y, r, he⟩ := exp_hd T c
 unfold oneT at h
 cases hb : (scalarB c && wfB T)
 ·rfl
 ·rw [if_pos hb, he] at h; cases h
theorem bnd_some {T : Tbl} {c y : Int} {r : List Int} (h : oneT T c = y :: r) : wfB T = true ∧ bndB T c = ((clsT T y == 0) && !secT T y) := by
 unfold oneT at h
 cases hb : (scalarB c && wfB T)
 ·rw [hb, if_neg (by simp)] at h; cases h
 ·rw [if_pos hb] at h
  refine ⟨(Bool.and_eq_true _ _ ▸ hb).2, ?_⟩
  rw [bndB_eq h, hb, Bool.true_and]
  congr 1
set_option maxHeartbeats 3200000 in
set_option maxRecDepth 100000 in
theorem bnd_spec (T : Tbl) (t : TV) (c : Int) (w : World) (ht : TblS w t T) :
  Calls Tryz.prog 25 #[t.v, .int .i64 c] w fun e w' => e = .returned (.bool (bndB T c)) ∧ Ext w w' := by
 have hba := tw_ext w t
 have HT := Lib.hid (ht.ext_ hba)
 clear ht
 go_enter Tryz.func25, Tryz.ntmps25
 go_wp2_with fail
 refine (done_spec T t c _ HT.out).mono ?_
 rintro e w1 ⟨A, n, q, rfl, hi, hb1⟩
 have HB1 := Lib.hid hb1
 have hn := hi.len.1
 cases hl : oneT T c with
 | nil =>
  have HV := Lib.hid (bnd_none hl)
  rw [hl] at hn
  subst hn
  have hb := hba.trans' HB1.out
  have rT : ∀ yy : ExtW w1, ∀ k : Nat, yy.w.cell? ⟨w.heap.size, k, none⟩ = t.v.cells[k]? := fun yy => box_at (HB1.out.trans' yy.h)
  clear hi hl hb1 HT
  go_wp2_with fail
  refine region_ext (by kernel_rfl) (by kernel_rfl) ?_
  repeat (go_big_quiet_step (fail))
  refine wpQuiet_nil ?_
  rintro _ ⟨x, rfl⟩
  have hbb := hb.trans' x.h
  clear rT
  go_wp2_with fail
  go_ret
  exact ⟨ret_bool HV.out.symm, hbb⟩
 | cons y r =>
  rw [hl] at hi hn
  obtain ⟨hw, hv⟩ := bnd_some hl
  have HV := Lib.hid hv
  have HW := Lib.hid hw
  have HS := Lib.hid (wf_srt hw)
  obtain ⟨b, o, rfl, hc⟩ := hi.at_ (i := 0) (by simp)
  simp only [Nat.add_zero, List.getElem_cons_zero] at hc
  have hn0 : (0 : Int) < (n : Int) := by rw [hn]; simp <;> omega
  have hn1 : 0 < n := by rw [hn]; simp
  have hd : decide ((0 : Int) < (n : Int)) = true := decide_eq_true hn0
  have hd2 : decide (0 < n) = true := decide_eq_true hn1
  have rX : ∀ yy : ExtW w1, yy.w.cell? ⟨b, o, none⟩ = some (.int .i64 y) := ext_cell hc
  have rT : ∀ yy : ExtW w1, ∀ k : Nat, yy.w.cell? ⟨w.heap.size, k, none⟩ = t.v.cells[k]? := fun yy => box_at (HB1.out.trans' yy.h)
  clear hi hn hl hv hw hb1 hc
  cases hc0 : clsT T y == 0
  ·have HF : Hid (bndB T c = false) := Lib.hid (by rw [HV.out, hc0]; rfl)
   clear HV
   go_wp2_with fail
   refine region_ext (by kernel_rfl) (by kernel_rfl) ?_
   repeat (go_big_quiet_step ((go_at_call 66; with_reducible exact quiet_ext (class_spec t T y _ (HT.out.ext_ (HB1.out.trans' (ExtW.h _))) HS.out))))
   refine wpQuiet_nil ?_
   rintro _ ⟨x, rfl⟩
   have hbb := (hba.trans' HB1.out).trans' x.h
   clear rT rX
   go_wp2_with fail
   go_ret
   exact ⟨ret_bool HF.out.symm, hbb⟩
  ·have HF : Hid (bndB T c = !secT T y) := Lib.hid (by rw [HV.out, hc0]; rfl)
   clear HV
   go_wp2_with fail
   refine region_ext (by kernel_rfl) (by kernel_rfl) ?_
   repeat (go_big_quiet_step (first
    | (go_at_call 66; with_reducible exact quiet_ext (class_spec t T y _ (HT.out.ext_ (HB1.out.trans' (ExtW.h _))) HS.out))
    | (go_at_call 67; with_reducible exact quiet_ext (csecC_spec t T y _ (HT.out.ext_ (HB1.out.trans' (ExtW.h _)))))))
   refine wpQuiet_nil ?_
   rintro _ ⟨x, rfl⟩
   have hbb := (hba.trans' HB1.out).trans' x.h
   clear rT rX
   go_wp2_with fail
   go_ret
   exact ⟨ret_bool (by rw [HF.out, secC, HW.out, Bool.true_and]), hbb⟩
set_option maxHeartbeats 3200000 in
set_option maxRecDepth 100000 in
theorem rbnd_spec (T : Tbl) (t : TV) (c : Int) (w : World) (ht : TblS w t T) :
  Calls Tryz.prog 26 #[t.v, .int .i64 c] w fun e w' => e = .returned (.bool (bndB T c)) ∧ Ext w w' := by
 have hba := tw_ext w t
 have HT := Lib.hid (ht.ext_ hba)
 clear ht
 go_enter Tryz.func26, Tryz.ntmps26
 go_wp2_with fail
 refine (rone_spec T t c _ HT.out).mono ?_
 rintro e w1 ⟨A, n, q, rfl, hi, hb1⟩
 have HB1 := Lib.hid hb1
 have hn := hi.len.1
 cases hl : oneT T c with
 | nil =>
  have HV := Lib.hid (bnd_none hl)
  rw [hl] at hn
  subst hn
  have hb := hba.trans' HB1.out
  have rT : ∀ yy : ExtW w1, ∀ k : Nat, yy.w.cell? ⟨w.heap.size, k, none⟩ = t.v.cells[k]? := fun yy => box_at (HB1.out.trans' yy.h)
  clear hi hl hb1 HT
  go_wp2_with fail
  refine region_ext (by kernel_rfl) (by kernel_rfl) ?_
  repeat (go_big_quiet_step (fail))
  refine wpQuiet_nil ?_
  rintro _ ⟨x, rfl⟩
  have hbb := hb.trans' x.h
  clear rT
  go_wp2_with fail
  go_ret
  exact ⟨ret_bool HV.out.symm, hbb⟩
 | cons y r =>
  rw [hl] at hi hn
  obtain ⟨hw, hv⟩ := bnd_some hl
  have HV := Lib.hid hv
  have HW := Lib.hid hw
  have HS := Lib.hid (wf_srt hw)
  obtain ⟨b, o, rfl, hc⟩ := hi.at_ (i := 0) (by simp)
  simp only [Nat.add_zero, List.getElem_cons_zero] at hc
  have hn0 : (0 : Int) < (n : Int) := by rw [hn]; simp <;> omega
  have hn1 : 0 < n := by rw [hn]; simp
  have hd : decide ((0 : Int) < (n : Int)) = true := decide_eq_true hn0
  have hd2 : decide (0 < n) = true := decide_eq_true hn1
  have rX : ∀ yy : ExtW w1, yy.w.cell? ⟨b, o, none⟩ = some (.int .i64 y) := ext_cell hc
  have rT : ∀ yy : ExtW w1, ∀ k : Nat, yy.w.cell? ⟨w.heap.size, k, none⟩ = t.v.cells[k]? := fun yy => box_at (HB1.out.trans' yy.h)
  clear hi hn hl hv hw hb1 hc
  cases hc0 : clsT T y == 0
  ·have HF : Hid (bndB T c = false) := Lib.hid (by rw [HV.out, hc0]; rfl)
   clear HV
   go_wp2_with fail
   refine region_ext (by kernel_rfl) (by kernel_rfl) ?_
   repeat (go_big_quiet_step ((go_at_call 68; with_reducible exact quiet_ext (rclass_spec t T y _ (HT.out.ext_ (HB1.out.trans' (ExtW.h _))) ))))
   refine wpQuiet_nil ?_
   rintro _ ⟨x, rfl⟩
   have hbb := (hba.trans' HB1.out).trans' x.h
   clear rT rX
   go_wp2_with fail
   go_ret
   exact ⟨ret_bool HF.out.symm, hbb⟩
  ·have HF : Hid (bndB T c = !secT T y) := Lib.hid (by rw [HV.out, hc0]; rfl)
   clear HV
   go_wp2_with fail
   refine region_ext (by kernel_rfl) (by kernel_rfl) ?_
   repeat (go_big_quiet_step (first
    | (go_at_call 68; with_reducible exact quiet_ext (rclass_spec t T y _ (HT.out.ext_ (HB1.out.trans' (ExtW.h _))) ))
    | (go_at_call 69; with_reducible exact quiet_ext (rsecond_spec T HW.out t y _ (HT.out.ext_ (HB1.out.trans' (ExtW.h _)))))))
   refine wpQuiet_nil ?_
   rintro _ ⟨x, rfl⟩
   have hbb := (hba.trans' HB1.out).trans' x.h
   clear rT rX
   go_wp2_with fail
   go_ret
   exact ⟨ret_bool HF.out.symm, hbb⟩
end Go.Proofs.YtbdabjhankgcmaaGreatDoor
