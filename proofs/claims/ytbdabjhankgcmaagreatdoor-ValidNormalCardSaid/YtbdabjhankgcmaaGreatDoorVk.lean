/- Walks of the reference: Acceptable, Left, Right, JoinerPermitted, JoinerCheck. -/
import Derived.Test.YtbdabjhankgcmaaGreatDoorVj
import Derived.Test.YtbdabjhankgcmaaGreatDoorGf
import Derived.Test.YtbdabjhankgcmaaGreatDoorGu
namespace Go.Proofs.YtbdabjhankgcmaaGreatDoor
open Go.RowKit
theorem racc_spec (t : TV) (T : Tbl) (l : List Int) (A : Option Addr) (n c : Nat) (w : World) (ht : TblS w t T) (h : IntS w ⟨A, n, c⟩ l) :
  Calls Tryz.prog 80 #[t.v, .slice A n c] w fun e w' => e = .returned (.int .i64 (ordErr T l)) ∧ Ext w w' := by
 have hba := tw_ext w t
 go_enter Tryz.func80, Tryz.ntmps80
 go_wp2_with fail
 refine (racceptable_spec t T l A n c _ (ht.ext_ hba) (h.ext hba)).mono ?_
 rintro e w1 ⟨rfl, hb1⟩
 go_wp2_with fail
 go_ret
 exact ⟨rfl, hba.trans' hb1⟩
theorem leftV_no {T : Tbl} {l : List Int} {i : Int} (h : existsB T l i = false) : leftV T l i = -1 := by rw [leftV, if_neg (by rw [h]; simp)]
theorem rightV_no {T : Tbl} {l : List Int} {i : Int} (h : existsB T l i = false) : rightV T l i = -1 := by rw [rightV, if_neg (by rw [h]; simp)]
theorem existsB_lo {T : Tbl} {l : List Int} {i : Int} (h : i < 0) : existsB T l i = false := by rw [existsB, dec_f (p := 0 ≤ i) (by omega)]; simp
theorem existsB_hi {T : Tbl} {l : List Int} {i : Int} (h : (l.length : Int) ≤ i) : existsB T l i = false := by rw [existsB, dec_f (p := i < (l.length : Int)) (by omega)]; simp
theorem existsB_err {T : Tbl} {l : List Int} {i : Int} (h : ordErr T l ≠ 0) : existsB T l i = false := by
 have e : (ordErr T l == 0) = false := by rw [beq_eq_false_iff_ne]; exact h
 rw [existsB, e]; rfl
theorem existsB_yes {T : Tbl} {l : List Int} {i : Nat} (h : ordErr T l = 0) (hi : i < l.length) : existsB T l i = true := by
 rw [existsB, h, dec_t (p := (0 : Int) ≤ (i : Int)) (by omega), dec_t (p := (i : Int) < (l.length : Int)) (by omega)]; rfl
theorem ctx_at {l : List Int} {k : Nat} (h : k < l.length) : l.drop k = l[k] :: l.drop (k + 1) := drop_at l k h
set_option maxHeartbeats 3200000 in
set_option maxRecDepth 100000 in
theorem rleft_spec (t : TV) (T : Tbl) (l : List Int) (A : Option Addr) (n c : Nat) (i : Int) (w : World) (ht : TblS w t T) (h : IntS w ⟨A, n, c⟩ l) :
  Calls Tryz.prog 174 #[t.v, .slice A n c, .int .i64 i] w fun e w' => e = .returned (.int .i64 (leftV T l i)) ∧ Ext w w' := by
 obtain ⟨hn, hcap, hmx⟩ := h.len
 subst hn
 have hba := tw_ext w t
 have HI := Lib.hid h
 have HT := Lib.hid ht
 by_cases c1 : i < 0
 ·have HF : Hid (leftV T l i = -1) := Lib.hid (leftV_no (existsB_lo c1))
  have d1 : decide (i < 0) = true := dec_t c1
  clear ht h
  go_enter Tryz.func174, Tryz.ntmps174
  go_wp2_with fail
  go_ret
  exact ⟨ret_int HF.out.symm, hba⟩
 have d1 : decide (i < 0) = false := dec_f c1
 obtain ⟨i, rfl⟩ : ∃ k : Nat, i = (k : Int) := ⟨i.toNat, by omega⟩
 by_cases c2 : l.length ≤ i
 ·have HF : Hid (leftV T l i = -1) := Lib.hid (leftV_no (existsB_hi (by omega)))
  have d2 : decide (l.length ≤ i) = true := dec_t c2
  have d3 : decide ((l.length : Int) ≤ (i : Int)) = true := dec_t (by omega)
  clear ht h
  go_enter Tryz.func174, Tryz.ntmps174
  go_wp2_with fail
  go_ret
  exact ⟨ret_int HF.out.symm, hba⟩
 have d2 : decide (l.length ≤ i) = false := dec_f c2
 have d3 : decide ((l.length : Int) ≤ (i : Int)) = false := dec_f (by omega)
 have HACC := Lib.hid (racc_spec t T l A l.length c _ (ht.ext_ hba) (h.ext hba))
 clear ht h
 by_cases c3 : ordErr T l = 0
 case neg =>
  have HF : Hid (leftV T l i = -1) := Lib.hid (leftV_no (existsB_err c3))
  have e1 : (ordErr T l != 0) = true := by rw [bne_iff_ne]; exact c3
  generalize ordErr T l = oe at *
  clear c3
  go_enter Tryz.func174, Tryz.ntmps174
  go_wp2_with fail
  refine (HACC.out).mono ?_
  rintro e w1 ⟨rfl, hb1⟩
  go_wp2_with fail
  go_ret
  exact ⟨ret_int HF.out.symm, hba.trans' hb1⟩
 have HB : Hid (leftV T l i = nxDn T (l.take i).reverse) := Lib.hid (by rw [leftV, if_pos (existsB_yes c3 (by omega))]; rfl)
 rw [c3] at HACC
 generalize leftV T l i = V at *
 clear c3
 go_enter Tryz.func174, Tryz.ntmps174
 go_wp2_with fail
 refine (HACC.out).mono ?_
 rintro e w1 ⟨rfl, hb1⟩
 have HBX := Lib.hid hb1
 have HW := Lib.hid (hba.trans' hb1)
 clear hb1 HACC
 go_wp2_with fail
 go_loopw [7, 8] (fun s7 s8 wr => ∃ (k : Nat), k ≤ i ∧ s8 = .int .i64 k ∧ s7 = .int .i64 (nxDn T (l.take k).reverse) ∧ Ext w1 wr) (fun _ s8 _ => i - (intOf s8).toNat)
 case atStart => exact ⟨0, Nat.zero_le _, rfl, rfl, Ext.refl _⟩
 case round =>
  obtain ⟨k, hk, rfl, rfl, hbr⟩ := hrel
  have HBR := Lib.hid hbr
  clear hbr
  by_cases hlt : k < i
  ·obtain ⟨b, o, ha, h0⟩ := (HI.out.ext (HW.out.trans' HBR.out)).at_ (i := k) (by omega)
   subst ha
   have hk1 : (k : Int) < (l.length : Int) := by omega
   have hk0 : (0 : Int) ≤ (k : Int) := Int.natCast_nonneg _
   have HX : Hid (nxDn T (l.take (k + 1)).reverse = if joiT T (l[k]'(by omega)) = 5 then nxDn T (l.take k).reverse else (k : Int)) := Lib.hid (by
    rw [take_rev l k (by omega), nxDn, List.length_reverse, List.length_take, Nat.min_eq_left (by omega)])
   generalize l[k] = x at *
   have HJ : Hid (∀ z : ExtW wr, Calls Tryz.prog 176 #[t.v, .int .i64 x] z.w fun e w'' => e = .returned (.int .i64 (joiT T x)) ∧ Ext z.w w'') := Lib.hid (fun z => rjoining_spec t T x z.w (HT.out.ext_ ((HW.out.trans' HBR.out).trans' z.h)))
   have rT : ∀ z : ExtW wr, ∀ p : Nat, z.w.cell? ⟨w.heap.size, p, none⟩ = t.v.cells[p]? := fun z => box_at ((HBX.out.trans' HBR.out).trans' z.h)
   have rX : ∀ z : ExtW wr, z.w.cell? ⟨b, o + k, none⟩ = some (.int .i64 x) := ext_cell h0
   generalize nxDn T (l.take k).reverse = V0 at *
   obtain ⟨j, hj⟩ : ∃ j, joiT T x = j := ⟨_, rfl⟩
   rw [hj] at HJ HX
   obtain ⟨wo, rfl⟩ : ∃ wo : World, wo = wr := ⟨_, rfl⟩
   by_cases c5 : j = 5
   ·have e5 : (j != 5) = false := by rw [bne_eq_false_iff_eq]; exact c5
    have HY : Hid (nxDn T (l.take (k + 1)).reverse = V0) := Lib.hid (by rw [HX.out, if_pos c5])
    clear HX c5 hj
    go_wp2_with fail
    refine region_ext (by kernel_rfl) (by kernel_rfl) ?_
    repeat (go_big_quiet_step (first | (go_at_call 176; with_reducible exact quiet_ext (HJ.out _))))
    refine wpQuiet_nil ?_
    rintro _ ⟨z, rfl⟩
    clear rT rX
    go_wp2_with fail
    go_roundw
    case rel => exact ⟨k + 1, by omega, by go_num, by rw [HY.out], HBR.out.trans' z.h⟩
    case measure => simp [intOf]; omega
   ·have e5 : (j != 5) = true := by rw [bne_iff_ne]; exact c5
    have HY : Hid (nxDn T (l.take (k + 1)).reverse = (k : Int)) := Lib.hid (by rw [HX.out, if_neg c5])
    clear HX c5 hj
    go_wp2_with fail
    refine region_ext (by kernel_rfl) (by kernel_rfl) ?_
    repeat (go_big_quiet_step (first | (go_at_call 176; with_reducible exact quiet_ext (HJ.out _))))
    refine wpQuiet_nil ?_
    rintro _ ⟨z, rfl⟩
    clear rT rX
    go_wp2_with fail
    go_roundw
    case rel => exact ⟨k + 1, by omega, by go_num, by rw [HY.out], HBR.out.trans' z.h⟩
    case measure => simp [intOf]; omega
  ·obtain rfl : k = i := by omega
   go_wp2_with fail
   go_ret
   exact ⟨ret_int HB.out.symm, HW.out.trans' HBR.out⟩
set_option maxHeartbeats 3200000 in
set_option maxRecDepth 100000 in
theorem rright_spec (t : TV) (T : Tbl) (l : List Int) (A : Option Addr) (n c : Nat) (i : Int) (w : World) (ht : TblS w t T) (h : IntS w ⟨A, n, c⟩ l) :
  Calls Tryz.prog 175 #[t.v, .slice A n c, .int .i64 i] w fun e w' => e = .returned (.int .i64 (rightV T l i)) ∧ Ext w w' := by
 obtain ⟨hn, hcap, hmx⟩ := h.len
 subst hn
 have hba := tw_ext w t
 have HI := Lib.hid h
 have HT := Lib.hid ht
 by_cases c1 : i < 0
 ·have HF : Hid (rightV T l i = -1) := Lib.hid (rightV_no (existsB_lo c1))
  have d1 : decide (i < 0) = true := dec_t c1
  clear ht h
  go_enter Tryz.func175, Tryz.ntmps175
  go_wp2_with fail
  go_ret
  exact ⟨ret_int HF.out.symm, hba⟩
 have d1 : decide (i < 0) = false := dec_f c1
 obtain ⟨i, rfl⟩ : ∃ k : Nat, i = (k : Int) := ⟨i.toNat, by omega⟩
 by_cases c2 : l.length ≤ i
 ·have HF : Hid (rightV T l i = -1) := Lib.hid (rightV_no (existsB_hi (by omega)))
  have d2 : decide (l.length ≤ i) = true := dec_t c2
  have d3 : decide ((l.length : Int) ≤ (i : Int)) = true := dec_t (by omega)
  clear ht h
  go_enter Tryz.func175, Tryz.ntmps175
  go_wp2_with fail
  go_ret
  exact ⟨ret_int HF.out.symm, hba⟩
 have d2 : decide (l.length ≤ i) = false := dec_f c2
 have d3 : decide ((l.length : Int) ≤ (i : Int)) = false := dec_f (by omega)
 have HACC := Lib.hid (racc_spec t T l A l.length c _ (ht.ext_ hba) (h.ext hba))
 clear ht h
 by_cases c3 : ordErr T l = 0
 case neg =>
  have HF : Hid (rightV T l i = -1) := Lib.hid (rightV_no (existsB_err c3))
  have e1 : (ordErr T l != 0) = true := by rw [bne_iff_ne]; exact c3
  generalize ordErr T l = oe at *
  clear c3
  go_enter Tryz.func175, Tryz.ntmps175
  go_wp2_with fail
  refine (HACC.out).mono ?_
  rintro e w1 ⟨rfl, hb1⟩
  go_wp2_with fail
  go_ret
  exact ⟨ret_int HF.out.symm, hba.trans' hb1⟩
 have HB : Hid (rightV T l i = nxUp T (i + 1) (l.drop (i + 1))) := Lib.hid (by rw [rightV, if_pos (existsB_yes c3 (by omega))]; rfl)
 rw [c3] at HACC
 generalize rightV T l i = V at *
 clear c3
 go_enter Tryz.func175, Tryz.ntmps175
 go_wp2_with fail
 refine (HACC.out).mono ?_
 rintro e w1 ⟨rfl, hb1⟩
 have HBX := Lib.hid hb1
 have HW := Lib.hid (hba.trans' hb1)
 clear hb1 HACC
 go_wp2_with fail
 go_loopw [7, 8] (fun s7 s8 wr => ∃ (k : Nat), i + 1 ≤ k ∧ k ≤ l.length ∧ s8 = .int .i64 ((k : Int) - 1) ∧ s7 = .int .i64 (nxUp T k (l.drop k)) ∧ Ext w1 wr) (fun _ s8 _ => (intOf s8).toNat)
 case atStart => exact ⟨l.length, by omega, Nat.le_refl _, by go_num, by rw [drop_all l l.length (Nat.le_refl _)]; rfl, Ext.refl _⟩
 case round =>
  obtain ⟨k, hki, hk, rfl, rfl, hbr⟩ := hrel
  have HBR := Lib.hid hbr
  clear hbr
  by_cases hlt : i + 1 < k
  ·obtain ⟨j, rfl⟩ : ∃ j, k = j + 1 := ⟨k - 1, by omega⟩
   have hsub : ((j + 1 : Nat) : Int) - 1 = (j : Int) := by omega
   rw [hsub]
   obtain ⟨b, o, ha, h0⟩ := (HI.out.ext (HW.out.trans' HBR.out)).at_ (i := j) (by omega)
   subst ha
   have hk1 : (j : Int) < (l.length : Int) := by omega
   have hk0 : (0 : Int) ≤ (j : Int) := Int.natCast_nonneg _
   have dij : decide (i < j) = true := dec_t (by omega)
   have dij2 : decide ((i : Int) < (j : Int)) = true := dec_t (by omega)
   have HX : Hid (nxUp T j (l.drop j) = if joiT T (l[j]'(by omega)) = 5 then nxUp T (j + 1) (l.drop (j + 1)) else (j : Int)) := Lib.hid (by
    rw [drop_at l j (by omega), nxUp])
   generalize l[j] = x at *
   have HJ : Hid (∀ z : ExtW wr, Calls Tryz.prog 176 #[t.v, .int .i64 x] z.w fun e w'' => e = .returned (.int .i64 (joiT T x)) ∧ Ext z.w w'') := Lib.hid (fun z => rjoining_spec t T x z.w (HT.out.ext_ ((HW.out.trans' HBR.out).trans' z.h)))
   have rT : ∀ z : ExtW wr, ∀ p : Nat, z.w.cell? ⟨w.heap.size, p, none⟩ = t.v.cells[p]? := fun z => box_at ((HBX.out.trans' HBR.out).trans' z.h)
   have rX : ∀ z : ExtW wr, z.w.cell? ⟨b, o + j, none⟩ = some (.int .i64 x) := ext_cell h0
   generalize nxUp T (j + 1) (l.drop (j + 1)) = V0 at *
   obtain ⟨y, hj⟩ : ∃ y, joiT T x = y := ⟨_, rfl⟩
   rw [hj] at HJ HX
   obtain ⟨wo, rfl⟩ : ∃ wo : World, wo = wr := ⟨_, rfl⟩
   by_cases c5 : y = 5
   ·have e5 : (y != 5) = false := by rw [bne_eq_false_iff_eq]; exact c5
    have HY : Hid (nxUp T j (l.drop j) = V0) := Lib.hid (by rw [HX.out, if_pos c5])
    clear HX c5 hj
    go_wp2_with fail
    refine region_ext (by kernel_rfl) (by kernel_rfl) ?_
    repeat (go_big_quiet_step (first | (go_at_call 176; with_reducible exact quiet_ext (HJ.out _))))
    refine wpQuiet_nil ?_
    rintro _ ⟨z, rfl⟩
    clear rT rX
    go_wp2_with fail
    go_roundw
    case rel => exact ⟨j, by omega, by omega, by go_num, by rw [HY.out], HBR.out.trans' z.h⟩
    case measure => simp [intOf]; omega
   ·have e5 : (y != 5) = true := by rw [bne_iff_ne]; exact c5
    have HY : Hid (nxUp T j (l.drop j) = (j : Int)) := Lib.hid (by rw [HX.out, if_neg c5])
    clear HX c5 hj
    go_wp2_with fail
    refine region_ext (by kernel_rfl) (by kernel_rfl) ?_
    repeat (go_big_quiet_step (first | (go_at_call 176; with_reducible exact quiet_ext (HJ.out _))))
    refine wpQuiet_nil ?_
    rintro _ ⟨z, rfl⟩
    clear rT rX
    go_wp2_with fail
    go_roundw
    case rel => exact ⟨j, by omega, by omega, by go_num, by rw [HY.out], HBR.out.trans' z.h⟩
    case measure => simp [intOf]; omega
  ·obtain rfl : k = i + 1 := by omega
   have hsub : ((i + 1 : Nat) : Int) - 1 = (i : Int) := by omega
   rw [hsub]
   go_wp2_with fail
   go_ret
   exact ⟨ret_int HB.out.symm, HW.out.trans' HBR.out⟩
end Go.Proofs.YtbdabjhankgcmaaGreatDoor
