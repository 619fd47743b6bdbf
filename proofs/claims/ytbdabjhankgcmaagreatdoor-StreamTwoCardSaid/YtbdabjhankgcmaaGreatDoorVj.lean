/- Walk of the reference: Check. (By program: vj_gen.py.) -/
import Derived.Test.YtbdabjhankgcmaaGreatDoorVi
import Derived.Test.YtbdabjhankgcmaaGreatDoorGr
import Derived.Test.YtbdabjhankgcmaaGreatDoorVf
import Derived.Test.YtbdabjhankgcmaaGreatDoorGj
import Derived.Test.YtbdabjhankgcmaaGreatDoorVc
import Derived.Test.YtbdabjhankgcmaaGreatDoorVu
namespace Go.Proofs.YtbdabjhankgcmaaGreatDoor
open Go.RowKit
theorem shOk_sta {T : Tbl} (h : shapeB T = true) : ShOk T.sta := by
 simp only [shapeB, cols, shapeC, Bool.and_eq_true] at h
 exact ⟨h.1.1.2.2.2.2.2.1.1, h.1.1.2.2.2.2.2.1.2⟩
theorem shOk_scr {T : Tbl} (h : shapeB T = true) : ShOk T.scr := by
 simp only [shapeB, cols, shapeC, Bool.and_eq_true] at h
 exact ⟨h.1.1.2.2.2.2.1.1, h.1.1.2.2.2.2.1.2⟩
theorem rows_dec {T : Tbl} (h : rowsB T = true) : T.dec.length ≤ 256 := by
 simp only [rowsB, maps, rowsM, Bool.and_eq_true, decide_eq_true_eq] at h
 omega
theorem targetsL_len {i : Int} : ∀ {l : List Mp}, targetsL i l = true → ∀ x, (mpFind l x).length ≤ 18
 | [], _, x => by simp [mpFind]
 | m :: r, h, x => by
  simp only [targetsL, Bool.and_eq_true, Bool.not_eq_true', Bool.or_eq_false_iff, decide_eq_false_iff_not] at h
  rw [mpFind]
  split
  ·omega
  ·exact targetsL_len h.2 x
theorem targets_dec {T : Tbl} (h : targetsB T = true) : ∀ x, (mpFind T.dec x).length ≤ 18 := by
 simp only [targetsB, maps, targetsM, Bool.and_eq_true] at h
 exact targetsL_len h.2.2.1
set_option maxHeartbeats 12800000 in
set_option maxRecDepth 100000 in
theorem rcheck_spec (t : TV) (T : Tbl) (w : World) (ht : TblS w t T) :
  Calls Tryz.prog 54 #[t.v] w fun e w' => e = .returned (.int .i64 (checkNo T)) ∧ Ext w w' := by
 obtain ⟨s0, s1, s2, s3, s4, s5, s6, s7, s8, ⟨A9, n9, c9⟩, ⟨A10, n10, c10⟩, ⟨A11, n11, c11⟩⟩ := t
 have hx9 : MapS w ⟨A9, n9, c9⟩ T.dec := ht.dec
 have hx10 : IntS w ⟨A10, n10, c10⟩ T.exc := ht.exc
 have hx11 : MapS w ⟨A11, n11, c11⟩ T.pro := ht.pro
 obtain ⟨D, hD⟩ : ∃ D, D = T.dec := ⟨_, rfl⟩
 obtain ⟨X, hX⟩ : ∃ X, X = T.exc := ⟨_, rfl⟩
 obtain ⟨R, hR⟩ : ∃ R, R = T.pro := ⟨_, rfl⟩
 rw [← hD] at hx9
 rw [← hX] at hx10
 rw [← hR] at hx11
 obtain ⟨hl9, _, _⟩ := hx9.len
 obtain ⟨hl10, _, _⟩ := hx10.len
 obtain ⟨hl11, _, _⟩ := hx11.len
 subst hl9 hl10 hl11
 have hba : Ext w (w.alloc (.cells #[.slice s0.a s0.n s0.c, .slice s1.a s1.n s1.c, .slice s2.a s2.n s2.c, .slice s3.a s3.n s3.c, .slice s4.a s4.n s4.c, .slice s5.a s5.n s5.c, .slice s6.a s6.n s6.c, .slice s7.a s7.n s7.c, .slice s8.a s8.n s8.c, .slice A9 D.length c9, .slice A10 X.length c10, .slice A11 R.length c11] 26)) := (Ext.refl _).alloc_ _
 have HT : Hid (∀ w', Ext w w' → TblS w' ⟨s0, s1, s2, s3, s4, s5, s6, s7, s8, ⟨A9, D.length, c9⟩, ⟨A10, X.length, c10⟩, ⟨A11, R.length, c11⟩⟩ T) := Lib.hid (fun w' h => ht.ext_ h)
 have HX9 := Lib.hid hx9
 have HX10 := Lib.hid hx10
 have HX11 := Lib.hid hx11
 have HD := Lib.hid hD
 have HX := Lib.hid hX
 have HR0 := Lib.hid hR
 clear hx9 hx10 hx11 ht hD hX hR
 obtain ⟨V, hV⟩ : ∃ V, V = checkNo T := ⟨_, rfl⟩
 have HV := Lib.hid hV
 rw [← hV]
 clear hV
 go_enter Tryz.func54, Tryz.ntmps54
 have hb0 : Ext (w.alloc (.cells #[.slice s0.a s0.n s0.c, .slice s1.a s1.n s1.c, .slice s2.a s2.n s2.c, .slice s3.a s3.n s3.c, .slice s4.a s4.n s4.c, .slice s5.a s5.n s5.c, .slice s6.a s6.n s6.c, .slice s7.a s7.n s7.c, .slice s8.a s8.n s8.c, .slice A9 D.length c9, .slice A10 X.length c10, .slice A11 R.length c11] 26)) (w.alloc (.cells #[.slice s0.a s0.n s0.c, .slice s1.a s1.n s1.c, .slice s2.a s2.n s2.c, .slice s3.a s3.n s3.c, .slice s4.a s4.n s4.c, .slice s5.a s5.n s5.c, .slice s6.a s6.n s6.c, .slice s7.a s7.n s7.c, .slice s8.a s8.n s8.c, .slice A9 D.length c9, .slice A10 X.length c10, .slice A11 R.length c11] 26)) := Ext.refl _
 have HT0 := Lib.hid (HT.out _ hba)
 go_wp2_with fail
 refine (rsmall_spec _ T _ HT0.out).mono ?_
 rintro e w1 ⟨rfl, hc1⟩
 have hb1 := hb0.trans' hc1
 clear hc1
 cases hv1 : rowsB T
 ·have HF : Hid (V = 1) := Lib.hid (by rw [HV.out]; unfold checkNo; rw [hv1]; rfl)
  clear hv1
  go_wp2_with fail
  go_ret
  exact ⟨ret_int HF.out.symm, hba.trans' hb1⟩
 have HV1 := Lib.hid hv1
 clear hv1
 have HT1 := Lib.hid (HT.out _ (hba.trans' hb1))
 have rT : ∀ q : Nat, w1.cell? ⟨w.heap.size, q, none⟩ = (#[.slice s0.a s0.n s0.c, .slice s1.a s1.n s1.c, .slice s2.a s2.n s2.c, .slice s3.a s3.n s3.c, .slice s4.a s4.n s4.c, .slice s5.a s5.n s5.c, .slice s6.a s6.n s6.c, .slice s7.a s7.n s7.c, .slice s8.a s8.n s8.c, .slice A9 D.length c9, .slice A10 X.length c10, .slice A11 R.length c11] : Array Value)[q]? := box_at hb1
 have hz1 : w.heap.size < w1.heap.size := by have h' := hb1.b.size; simp at h'; omega
 go_wp2_with fail
 refine (rplaced_spec _ T _ HT1.out).mono ?_
 rintro e w2 ⟨rfl, hc2⟩
 have hb2 := hb1.trans' hc2
 clear hc2
 clear rT hz1
 cases hv2 : shapeB T
 ·have HF : Hid (V = 2) := Lib.hid (by rw [HV.out]; unfold checkNo; rw [HV1.out, hv2]; rfl)
  clear hv2
  go_wp2_with fail
  go_ret
  exact ⟨ret_int HF.out.symm, hba.trans' hb2⟩
 have HV2 := Lib.hid hv2
 clear hv2
 have HS2 := Lib.hid (shOk_sta HV2.out)
 have HT2 := Lib.hid (HT.out _ (hba.trans' hb2))
 have rT : ∀ q : Nat, w2.cell? ⟨w.heap.size, q, none⟩ = (#[.slice s0.a s0.n s0.c, .slice s1.a s1.n s1.c, .slice s2.a s2.n s2.c, .slice s3.a s3.n s3.c, .slice s4.a s4.n s4.c, .slice s5.a s5.n s5.c, .slice s6.a s6.n s6.c, .slice s7.a s7.n s7.c, .slice s8.a s8.n s8.c, .slice A9 D.length c9, .slice A10 X.length c10, .slice A11 R.length c11] : Array Value)[q]? := box_at hb2
 have hz2 : w.heap.size < w2.heap.size := by have h' := hb2.b.size; simp at h'; omega
 go_wp2_with fail
 refine (rranged_spec _ T _ HT2.out).mono ?_
 rintro e w3 ⟨rfl, hc3⟩
 have hb3 := hb2.trans' hc3
 clear hc3
 clear rT hz2
 cases hv3 : valuesB T
 ·have HF : Hid (V = 3) := Lib.hid (by rw [HV.out]; unfold checkNo; rw [HV1.out, HV2.out, hv3]; rfl)
  clear hv3
  go_wp2_with fail
  go_ret
  exact ⟨ret_int HF.out.symm, hba.trans' hb3⟩
 have HV3 := Lib.hid hv3
 clear hv3
 have HT3 := Lib.hid (HT.out _ (hba.trans' hb3))
 have rT : ∀ q : Nat, w3.cell? ⟨w.heap.size, q, none⟩ = (#[.slice s0.a s0.n s0.c, .slice s1.a s1.n s1.c, .slice s2.a s2.n s2.c, .slice s3.a s3.n s3.c, .slice s4.a s4.n s4.c, .slice s5.a s5.n s5.c, .slice s6.a s6.n s6.c, .slice s7.a s7.n s7.c, .slice s8.a s8.n s8.c, .slice A9 D.length c9, .slice A10 X.length c10, .slice A11 R.length c11] : Array Value)[q]? := box_at hb3
 have hz3 : w.heap.size < w3.heap.size := by have h' := hb3.b.size; simp at h'; omega
 go_wp2_with fail
 refine (rsized_spec _ T _ HT3.out).mono ?_
 rintro e w4 ⟨rfl, hc4⟩
 have hb4 := hb3.trans' hc4
 clear hc4
 clear rT hz3
 cases hv4 : targetsB T
 ·have HF : Hid (V = 4) := Lib.hid (by rw [HV.out]; unfold checkNo; rw [HV1.out, HV2.out, HV3.out, hv4]; rfl)
  clear hv4
  go_wp2_with fail
  go_ret
  exact ⟨ret_int HF.out.symm, hba.trans' hb4⟩
 have HV4 := Lib.hid hv4
 clear hv4
 have HT4 := Lib.hid (HT.out _ (hba.trans' hb4))
 have rT : ∀ q : Nat, w4.cell? ⟨w.heap.size, q, none⟩ = (#[.slice s0.a s0.n s0.c, .slice s1.a s1.n s1.c, .slice s2.a s2.n s2.c, .slice s3.a s3.n s3.c, .slice s4.a s4.n s4.c, .slice s5.a s5.n s5.c, .slice s6.a s6.n s6.c, .slice s7.a s7.n s7.c, .slice s8.a s8.n s8.c, .slice A9 D.length c9, .slice A10 X.length c10, .slice A11 R.length c11] : Array Value)[q]? := box_at hb4
 have hz4 : w.heap.size < w4.heap.size := by have h' := hb4.b.size; simp at h'; omega
 go_wp2_with fail
 refine (rmapped_spec _ T _ HT4.out HS2.out (srt_of HV1.out HV2.out).2).mono ?_
 rintro e w5 ⟨rfl, hc5⟩
 have hb5 := hb4.trans' hc5
 clear hc5
 clear rT hz4
 cases hv5 : mappedB T
 ·have HF : Hid (V = 5) := Lib.hid (by rw [HV.out]; unfold checkNo; rw [HV1.out, HV2.out, HV3.out, HV4.out, hv5]; rfl)
  clear hv5
  go_wp2_with fail
  go_ret
  exact ⟨ret_int HF.out.symm, hba.trans' hb5⟩
 have HV5 := Lib.hid hv5
 clear hv5
 have HT5 := Lib.hid (HT.out _ (hba.trans' hb5))
 have rT : ∀ q : Nat, w5.cell? ⟨w.heap.size, q, none⟩ = (#[.slice s0.a s0.n s0.c, .slice s1.a s1.n s1.c, .slice s2.a s2.n s2.c, .slice s3.a s3.n s3.c, .slice s4.a s4.n s4.c, .slice s5.a s5.n s5.c, .slice s6.a s6.n s6.c, .slice s7.a s7.n s7.c, .slice s8.a s8.n s8.c, .slice A9 D.length c9, .slice A10 X.length c10, .slice A11 R.length c11] : Array Value)[q]? := box_at hb5
 have hz5 : w.heap.size < w5.heap.size := by have h' := hb5.b.size; simp at h'; omega
 go_wp2_with fail
 refine (rfinite_spec _ T _ HT5.out (rows_dec HV1.out) (targets_dec HV4.out)).mono ?_
 rintro e w6 ⟨rfl, hc6⟩
 have hb6 := hb5.trans' hc6
 clear hc6
 clear rT hz5
 cases hv6 : decomposedB T
 ·have HF : Hid (V = 6) := Lib.hid (by rw [HV.out]; unfold checkNo; rw [HV1.out, HV2.out, HV3.out, HV4.out, HV5.out, hv6]; rfl)
  clear hv6
  go_wp2_with fail
  go_ret
  exact ⟨ret_int HF.out.symm, hba.trans' hb6⟩
 have HV6 := Lib.hid hv6
 clear hv6
 have HB6 := Lib.hid hb6
 have HB : Hid (V = if excL D X = true then (if dup8 T [] D = true then ref9 T else 8) else 7) := Lib.hid (by rw [HV.out, checkNo_ref HV1.out HV2.out HV3.out HV4.out HV5.out HV6.out, HD.out, HX.out])
 have HCO : Hid (∀ (c : Int) (w' : World), Ext w w' → Calls Tryz.prog 98 #[TV.v ⟨s0, s1, s2, s3, s4, s5, s6, s7, s8, ⟨A9, D.length, c9⟩, ⟨A10, X.length, c10⟩, ⟨A11, R.length, c11⟩⟩, .int .i64 c] w' fun e w'' => e = .returned (.bool (compT T ⟨c, mpFind T.dec c⟩)) ∧ Ext w' w'') :=
  Lib.hid (fun c w' h => rcomp_spec T (rows_dec HV1.out) (finD_of HV6.out) (targets_dec HV4.out) _ c w' (HT.out w' h))
 have HSR : Hid (MpSorted D) := Lib.hid (by rw [HD.out]; exact (srt_of HV1.out HV2.out).1.dec.1)
 have HPR : Hid (ref9 T = if protoL T R = true then 0 else 9) := Lib.hid (by rw [HR0.out]; rfl)
 have HIG : Hid (∀ (c : Int) (v : Bool), ignT T c = v → ∀ (w' : World), Ext w w' → Calls Tryz.prog 90 #[TV.v ⟨s0, s1, s2, s3, s4, s5, s6, s7, s8, ⟨A9, D.length, c9⟩, ⟨A10, X.length, c10⟩, ⟨A11, R.length, c11⟩⟩, .int .i64 c] w' fun e w'' => e = .returned (.bool v) ∧ Ext w' w'') :=
  Lib.hid (fun c v hv w' h => by have h' := rignorable_spec _ T c w' (HT.out w' h); rw [hv] at h'; exact h')
 clear HV HV1 HV2 HV3 HV4 HV5 HV6 HS2 hb1 hb2 hb3 hb4 hb5 HT HT0 HT1 HT2 HT3 HT4 HT5
 obtain ⟨v8, h8⟩ : ∃ v, v = if dup8 T [] D = true then ref9 T else 8 := ⟨_, rfl⟩
 rw [← h8] at HB
 have H8 := Lib.hid h8
 clear h8
 have rT : ∀ q : Nat, w6.cell? ⟨w.heap.size, q, none⟩ = (#[.slice s0.a s0.n s0.c, .slice s1.a s1.n s1.c, .slice s2.a s2.n s2.c, .slice s3.a s3.n s3.c, .slice s4.a s4.n s4.c, .slice s5.a s5.n s5.c, .slice s6.a s6.n s6.c, .slice s7.a s7.n s7.c, .slice s8.a s8.n s8.c, .slice A9 D.length c9, .slice A10 X.length c10, .slice A11 R.length c11] : Array Value)[q]? := box_at hb6
 have hz6 : w.heap.size < w6.heap.size := by have h' := hb6.b.size; simp at h'; omega
 clear hb6
 go_wp2_with fail
 clear rT hz6
 go_loopw [40] (fun i wr => ∃ (k : Nat), k ≤ X.length ∧ i = .int .i64 k ∧ Hid (V = if excL D (X.drop k) = true then v8 else 7) ∧ Ext w6 wr) (fun i _ => X.length - (intOf i).toNat)
 case atStart => exact ⟨0, Nat.zero_le _, rfl, HB, Ext.refl _⟩
 case round =>
  obtain ⟨k, hk, rfl, HR, hbr⟩ := hrel
  have HBX := Lib.hid (HB6.out.trans' hbr)
  have HRR := Lib.hid hbr
  have HBR := Lib.hid (hba.trans' (HB6.out.trans' hbr))
  have rT : ∀ q : Nat, wr.cell? ⟨w.heap.size, q, none⟩ = (#[.slice s0.a s0.n s0.c, .slice s1.a s1.n s1.c, .slice s2.a s2.n s2.c, .slice s3.a s3.n s3.c, .slice s4.a s4.n s4.c, .slice s5.a s5.n s5.c, .slice s6.a s6.n s6.c, .slice s7.a s7.n s7.c, .slice s8.a s8.n s8.c, .slice A9 D.length c9, .slice A10 X.length c10, .slice A11 R.length c11] : Array Value)[q]? := box_at HBX.out
  have hz : w.heap.size < wr.heap.size := by have h' := HBX.out.b.size; simp at h'; omega
  clear hbr HB
  by_cases hlt : k < X.length
  ·obtain ⟨b, o, ha, h0⟩ := (HX10.out.ext HBR.out).at_ hlt
   subst ha
   have HDR : Hid (X.drop k = X[k] :: X.drop (k + 1)) := drop_at X k hlt
   generalize X[k] = x at *
   have HS := hid_trans HR (show _ = if (!(mpFind D x).isEmpty && excL D (X.drop (k + 1))) = true then v8 else 7 from by rw [HDR.out]; rfl)
   clear HR HDR
   obtain ⟨wo, rfl⟩ : ∃ wo : World, wo = wr := ⟨_, rfl⟩
   go_wp2_with fail
   refine (rfind_spec D A9 D.length c9 x _ (HX9.out.ext HBR.out)).mono ?_
   rintro e w7 ⟨za, zn, zc, rfl, hz7, hb7⟩
   have hzn := hz7.len.1
   have hb67 := Lib.hid hb7
   clear rT hz hz7 hb7
   by_cases he : (mpFind D x).isEmpty = true
   ·have hzn0 : zn = 0 := by rw [hzn, List.isEmpty_iff.1 he]; rfl
    have HF : Hid (V = 7) := Lib.hid (by rw [HS.out, he]; rfl)
    clear HS he hzn
    subst hzn0
    go_wp2_with fail
    go_ret
    exact ⟨ret_int HF.out.symm, HBR.out.trans' hb67.out⟩
   ·have HF : Hid (V = if excL D (X.drop (k + 1)) = true then v8 else 7) := Lib.hid (by
     rw [HS.out]; simp only [Bool.not_eq_true] at he; rw [he]; rfl)
    have hzp : 0 < zn := by
     rw [hzn]
     cases hm : mpFind D x with
     | nil => rw [hm] at he; simp at he
     | cons y r => simp
    have e1 : (zn == 0) = false := by rw [beq_eq_false_iff_ne]; omega
    have e2 : ((zn : Int) == 0) = false := by rw [beq_eq_false_iff_ne]; omega
    clear HS he hzn
    have hx67 : Ext w6 w7 := by
     have h1 := hb67.out
     exact HRR.out.trans' h1
    go_wp2_with fail
    go_roundw
    case rel => exact ⟨k + 1, by omega, by go_num, HF, hx67⟩
    case measure => simp [intOf]; omega
  ·have HF : Hid (V = v8) := Lib.hid (by rw [HR.out, drop_all X k (by omega)]; rfl)
   clear HR
   have HB8 : Hid (V = if dup8 T (D.take 0) (D.drop 0) = true then ref9 T else 8) := Lib.hid (by rw [HF.out, H8.out]; rfl)
   clear HF H8
   obtain ⟨v9, h9⟩ : ∃ v, v = ref9 T := ⟨_, rfl⟩
   rw [← h9] at HB8 HPR
   clear h9
   obtain ⟨wb, rfl⟩ : ∃ wb : World, wb = wr := ⟨_, rfl⟩
   go_wp2_with fail
   clear rT hz
   go_loopw [54] (fun i wr => ∃ (k : Nat), k ≤ D.length ∧ i = .int .i64 k ∧ Hid (V = if dup8 T (D.take k) (D.drop k) = true then v9 else 8) ∧ Ext wb wr) (fun i _ => D.length - (intOf i).toNat)
   case atStart => exact ⟨0, Nat.zero_le _, rfl, HB8, Ext.refl _⟩
   case round =>
    obtain ⟨i, hi, rfl, HR, hbr⟩ := hrel
    have HBX2 := Lib.hid (HBX.out.trans' hbr)
    have HBR2 := Lib.hid (HBR.out.trans' hbr)
    have HR2 := Lib.hid hbr
    have rT : ∀ q : Nat, wr.cell? ⟨w.heap.size, q, none⟩ = (#[.slice s0.a s0.n s0.c, .slice s1.a s1.n s1.c, .slice s2.a s2.n s2.c, .slice s3.a s3.n s3.c, .slice s4.a s4.n s4.c, .slice s5.a s5.n s5.c, .slice s6.a s6.n s6.c, .slice s7.a s7.n s7.c, .slice s8.a s8.n s8.c, .slice A9 D.length c9, .slice A10 X.length c10, .slice A11 R.length c11] : Array Value)[q]? := box_at HBX2.out
    have hz : w.heap.size < wr.heap.size := by have h' := HBX2.out.b.size; simp at h'; omega
    clear hbr HB8
    by_cases hlt : i < D.length
    ·obtain ⟨b9, o9, za, zn, zc, ha, h0, h1, h2⟩ := (HX9.out.ext HBR2.out).at_ hlt
     have HA9 := Lib.hid ha
     subst ha
     have hcap := HX9.out.len.2.1
     obtain ⟨q, hq⟩ : ∃ q, q = dup8 T (D.take (i + 1)) (D.drop (i + 1)) := ⟨_, rfl⟩
     have HQ : Hid (∀ v, q = v → dup8 T (D.take (i + 1)) (D.drop (i + 1)) = v) := Lib.hid (fun v h => hq.symm.trans h)
     have HS := hid_trans HR (show _ = if (noPair T D[i] ((D.take i).drop 0) && q) = true then v9 else 8 from by rw [dup8_at T D i hlt, hq]; rfl)
     have HSELF := Lib.hid (mpFind_self HSR.out hlt)
     have HCA0 : Hid (∀ w', Ext w w' → Calls Tryz.prog 98 #[TV.v ⟨s0, s1, s2, s3, s4, s5, s6, s7, s8, ⟨some ⟨b9, o9, none⟩, D.length, c9⟩, ⟨A10, X.length, c10⟩, ⟨A11, R.length, c11⟩⟩, .int .i64 D[i].lo] w' fun e w'' => e = .returned (.bool (compT T D[i])) ∧ Ext w' w'') := Lib.hid (fun w' h => by
      have h' := HCO.out D[i].lo w' h
      rw [show mpFind T.dec D[i].lo = D[i].to from by rw [← HD.out]; exact HSELF.out] at h'
      exact h')
     generalize D[i] = x at *
     obtain ⟨xl, xt⟩ := x
     simp only at h0 h1 h2 HCA0
     obtain ⟨hzn, _, _⟩ := h2.len
     subst hzn
     obtain ⟨va, hva⟩ : ∃ v, compT T ⟨xl, xt⟩ = v := ⟨_, rfl⟩
     rw [hva] at HCA0
     have HVA := Lib.hid hva
     have H2 := Lib.hid h2
     clear HR hq hva h2 HSELF
     obtain ⟨wo, rfl⟩ : ∃ wo : World, wo = wr := ⟨_, rfl⟩
     have hbo : Ext wo (wo.alloc (.cells #[.int .i64 xl, .slice za xt.length zc] 74)) := (Ext.refl _).alloc_ _
     have HBO := Lib.hid hbo
     clear hbo
     go_wp2_with fail
     clear rT hz h0 h1
     go_loopw [64] (fun i2 wr => ∃ (j : Nat), j ≤ i ∧ i2 = .int .i64 j ∧ Hid (V = if (noPair T ⟨xl, xt⟩ ((D.take i).drop j) && q) = true then v9 else 8) ∧ Ext (wo.alloc (.cells #[.int .i64 xl, .slice za xt.length zc] 74)) wr) (fun i2 _ => i - (intOf i2).toNat)
     case atStart => exact ⟨0, Nat.zero_le _, rfl, HS, Ext.refl _⟩
     case round =>
      obtain ⟨j, hj, rfl, HI, hbi⟩ := hrel
      have HBI := Lib.hid hbi
      have HWI := Lib.hid (HBR2.out.trans' (HBO.out.trans' hbi))
      have HWX := Lib.hid (HBX2.out.trans' (HBO.out.trans' hbi))
      have rA0 := box_at hbi
      have hz : wo.heap.size < wr.heap.size := by have h' := hbi.b.size; simp at h'; omega
      have hzw : w.heap.size < wo.heap.size := by have h' := HBX2.out.b.size; simp at h'; omega
      clear hbi HS
      by_cases hltj : j < i
      ·obtain ⟨b', o', ya, yn, yc, ha, h0, h1, h2⟩ := (HX9.out.ext HWI.out).at_ (i := j) (by omega)
       injection ha with ha
       injection ha with e1 e2
       subst e1 e2
       have HS2 := hid_trans HI (show _ = if (!pairB T ⟨xl, xt⟩ (D[j]'(by omega)) && (noPair T ⟨xl, xt⟩ ((D.take i).drop (j + 1)) && q)) = true then v9 else 8 from by rw [take_drop_at D i j hltj (by omega), noPair, Bool.and_assoc])
       have HSELF := Lib.hid (mpFind_self HSR.out (i := j) (by omega))
       have HCB0 : Hid (∀ w', Ext w w' → Calls Tryz.prog 98 #[TV.v ⟨s0, s1, s2, s3, s4, s5, s6, s7, s8, ⟨some ⟨b9, o9, none⟩, D.length, c9⟩, ⟨A10, X.length, c10⟩, ⟨A11, R.length, c11⟩⟩, .int .i64 (D[j]'(by omega)).lo] w' fun e w'' => e = .returned (.bool (compT T (D[j]'(by omega)))) ∧ Ext w' w'') := Lib.hid (fun w' h => by
        have h' := HCO.out (D[j]'(by omega)).lo w' h
        rw [show mpFind T.dec (D[j]'(by omega)).lo = (D[j]'(by omega)).to from by rw [← HD.out]; exact HSELF.out] at h'
        exact h')
       generalize D[j] = y at *
       obtain ⟨yl, yt⟩ := y
       simp only at h0 h1 h2 HCB0
       obtain ⟨hyn, _, _⟩ := h2.len
       subst hyn
       obtain ⟨vb, hvb⟩ : ∃ v, compT T ⟨yl, yt⟩ = v := ⟨_, rfl⟩
       rw [hvb] at HCB0
       obtain ⟨r8, hr8⟩ : ∃ r, r = (noPair T ⟨xl, xt⟩ ((D.take i).drop (j + 1)) && q) := ⟨_, rfl⟩
       rw [← hr8] at HS2
       have HR8 := Lib.hid hr8
       have HP : Hid (V = if (!(va && vb && decide (xt = yt)) && r8) = true then v9 else 8) := hid_trans HS2 (by rw [pairB, HVA.out, hvb])
       have HVB := Lib.hid hvb
       have H2B := Lib.hid h2
       clear HI HSELF HS2 hvb hr8 h2
       obtain ⟨wi, rfl⟩ : ∃ wi : World, wi = wr := ⟨_, rfl⟩
       have hbb : Ext wi (wi.alloc (.cells #[.int .i64 yl, .slice ya yt.length yc] 74)) := (Ext.refl _).alloc_ _
       have HBB := Lib.hid hbb
       have HAO : Hid (Ext wo wi) := Lib.hid (HBO.out.trans' HBI.out)
       have rA : ∀ z : ExtW (wi.alloc (.cells #[.int .i64 yl, .slice ya yt.length yc] 74)), ∀ p : Nat, z.w.cell? ⟨wo.heap.size, p, none⟩ = (#[.int .i64 xl, .slice za xt.length zc] : Array Value)[p]? := fun z => box_at (HBI.out.trans' (HBB.out.trans' z.h))
       have rB : ∀ z : ExtW (wi.alloc (.cells #[.int .i64 yl, .slice ya yt.length yc] 74)), ∀ p : Nat, z.w.cell? ⟨wi.heap.size, p, none⟩ = (#[.int .i64 yl, .slice ya yt.length yc] : Array Value)[p]? := fun z => box_at z.h
       have rT : ∀ z : ExtW (wi.alloc (.cells #[.int .i64 yl, .slice ya yt.length yc] 74)), ∀ p : Nat, z.w.cell? ⟨w.heap.size, p, none⟩ = (#[.slice s0.a s0.n s0.c, .slice s1.a s1.n s1.c, .slice s2.a s2.n s2.c, .slice s3.a s3.n s3.c, .slice s4.a s4.n s4.c, .slice s5.a s5.n s5.c, .slice s6.a s6.n s6.c, .slice s7.a s7.n s7.c, .slice s8.a s8.n s8.c, .slice (some ⟨b9, o9, none⟩) D.length c9, .slice A10 X.length c10, .slice A11 R.length c11] : Array Value)[p]? := fun z => box_at (HWX.out.trans' (HBB.out.trans' z.h))
       have HCA : Hid (∀ z : ExtW (wi.alloc (.cells #[.int .i64 yl, .slice ya yt.length yc] 74)), Calls Tryz.prog 98 #[TV.v ⟨s0, s1, s2, s3, s4, s5, s6, s7, s8, ⟨some ⟨b9, o9, none⟩, D.length, c9⟩, ⟨A10, X.length, c10⟩, ⟨A11, R.length, c11⟩⟩, .int .i64 xl] z.w fun e w'' => e = .returned (.bool va) ∧ Ext z.w w'') := Lib.hid (fun z => HCA0.out z.w (HWI.out.trans' (HBB.out.trans' z.h)))
       have HCB : Hid (∀ z : ExtW (wi.alloc (.cells #[.int .i64 yl, .slice ya yt.length yc] 74)), Calls Tryz.prog 98 #[TV.v ⟨s0, s1, s2, s3, s4, s5, s6, s7, s8, ⟨some ⟨b9, o9, none⟩, D.length, c9⟩, ⟨A10, X.length, c10⟩, ⟨A11, R.length, c11⟩⟩, .int .i64 yl] z.w fun e w'' => e = .returned (.bool vb) ∧ Ext z.w w'') := Lib.hid (fun z => HCB0.out z.w (HWI.out.trans' (HBB.out.trans' z.h)))
       clear rA0 HCA0 HCB0
       have dj : decide ((j : Int) < (i : Int)) = true := by rw [decide_eq_true_eq]; omega
       cases va
       case false =>
        have HF : Hid (V = if r8 = true then v9 else 8) := Lib.hid (by rw [HP.out]; simp)
        clear HP
        go_wp2_with fail
        refine region_ext (by kernel_rfl) (by kernel_rfl) ?_
        repeat (go_big_quiet_step (first | (go_at_call 98; with_reducible exact quiet_ext (HCA.out _)) | (go_at_call 98; with_reducible exact quiet_ext (HCB.out _))))
        refine wpQuiet_nil ?_
        rintro _ ⟨z, rfl⟩
        clear rA rB rT
        go_wp2_with fail
        go_roundw
        case rel => exact ⟨j + 1, by omega, by go_num, hid_trans HF (by rw [HR8.out]), HBI.out.trans' (HBB.out.trans' z.h)⟩
        case measure => simp [intOf]; omega
       cases vb
       case false =>
        have HF : Hid (V = if r8 = true then v9 else 8) := Lib.hid (by rw [HP.out]; simp)
        clear HP
        go_wp2_with fail
        refine region_ext (by kernel_rfl) (by kernel_rfl) ?_
        repeat (go_big_quiet_step (first | (go_at_call 98; with_reducible exact quiet_ext (HCA.out _)) | (go_at_call 98; with_reducible exact quiet_ext (HCB.out _))))
        refine wpQuiet_nil ?_
        rintro _ ⟨z, rfl⟩
        clear rA rB rT
        go_wp2_with fail
        go_roundw
        case rel => exact ⟨j + 1, by omega, by go_num, hid_trans HF (by rw [HR8.out]), HBI.out.trans' (HBB.out.trans' z.h)⟩
        case measure => simp [intOf]; omega
       obtain ⟨xa, xb, hxab⟩ := compT_len HVA.out
       obtain ⟨yy, yz, hyyz⟩ := compT_len HVB.out
       simp only at hxab hyyz
       have lx : xt.length = 2 := by rw [hxab]; rfl
       have ly : yt.length = 2 := by rw [hyyz]; rfl
       obtain ⟨p1, p2, ha1, ga1⟩ := H2.out.at_ (i := 0) (by omega)
       obtain ⟨p3, p4, ha2, ga2⟩ := H2.out.at_ (i := 1) (by omega)
       subst ha1
       injection ha2 with ha2
       injection ha2 with e1 e2
       subst e1 e2
       obtain ⟨p5, p6, ha1, gb1⟩ := H2B.out.at_ (i := 0) (by omega)
       obtain ⟨p7, p8, ha2, gb2⟩ := H2B.out.at_ (i := 1) (by omega)
       subst ha1
       injection ha2 with ha2
       injection ha2 with e1 e2
       subst e1 e2
       have q1 : xt[0]'(by omega) = xa := by simp [hxab]
       have q2 : xt[1]'(by omega) = xb := by simp [hxab]
       have q3 : yt[0]'(by omega) = yy := by simp [hyyz]
       have q4 : yt[1]'(by omega) = yz := by simp [hyyz]
       rw [q1] at ga1
       rw [q2] at ga2
       rw [q3] at gb1
       rw [q4] at gb2
       simp only [Nat.add_zero] at ga1 gb1
       have lx0 : 0 < xt.length := by omega
       have lx1 : 1 < xt.length := by omega
       have ly0 : 0 < yt.length := by omega
       have ly1 : 1 < yt.length := by omega
       have lx2 : (1 : Int) < (xt.length : Int) := by omega
       have ly2 : (1 : Int) < (yt.length : Int) := by omega
       have HXY : Hid (decide (xt = yt) = (decide (xa = yy) && decide (xb = yz))) := Lib.hid (by rw [hxab, hyyz]; simp)
       clear q1 q2 q3 q4 lx ly hxab hyyz
       have rX1 : ∀ z : ExtW (wi.alloc (.cells #[.int .i64 yl, .slice (some ⟨p5, p6, none⟩) yt.length yc] 74)), z.w.cell? ⟨p1, p2, none⟩ = some (.int .i64 xa) := fun z => keep_cell (ext_keep (HAO.out.trans' (HBB.out.trans' z.h))) ga1
       have rX2 : ∀ z : ExtW (wi.alloc (.cells #[.int .i64 yl, .slice (some ⟨p5, p6, none⟩) yt.length yc] 74)), z.w.cell? ⟨p1, p2 + 1, none⟩ = some (.int .i64 xb) := fun z => keep_cell (ext_keep (HAO.out.trans' (HBB.out.trans' z.h))) ga2
       have rY1 : ∀ z : ExtW (wi.alloc (.cells #[.int .i64 yl, .slice (some ⟨p5, p6, none⟩) yt.length yc] 74)), z.w.cell? ⟨p5, p6, none⟩ = some (.int .i64 yy) := fun z => keep_cell (ext_keep (HBB.out.trans' z.h)) gb1
       have rY2 : ∀ z : ExtW (wi.alloc (.cells #[.int .i64 yl, .slice (some ⟨p5, p6, none⟩) yt.length yc] 74)), z.w.cell? ⟨p5, p6 + 1, none⟩ = some (.int .i64 yz) := fun z => keep_cell (ext_keep (HBB.out.trans' z.h)) gb2
       clear H2 H2B ga1 ga2 gb1 gb2 HVA HVB
       by_cases c1 : xa = yy
       case neg =>
        have d1 : (xa == yy) = false := by rw [beq_eq_false_iff_ne]; exact c1
        have HF : Hid (V = if r8 = true then v9 else 8) := Lib.hid (by rw [HP.out, HXY.out]; simp [c1])
        clear HP c1
        go_wp2_with fail
        refine region_ext (by kernel_rfl) (by kernel_rfl) ?_
        repeat (go_big_quiet_step (first | (go_at_call 98; with_reducible exact quiet_ext (HCA.out _)) | (go_at_call 98; with_reducible exact quiet_ext (HCB.out _))))
        refine wpQuiet_nil ?_
        rintro _ ⟨z, rfl⟩
        clear rA rB rT rX1 rX2 rY1 rY2
        go_wp2_with fail
        go_roundw
        case rel => exact ⟨j + 1, by omega, by go_num, hid_trans HF (by rw [HR8.out]), HBI.out.trans' (HBB.out.trans' z.h)⟩
        case measure => simp [intOf]; omega
       have d1 : (xa == yy) = true := by rw [beq_iff_eq]; exact c1
       by_cases c2 : xb = yz
       case neg =>
        have d2 : (xb == yz) = false := by rw [beq_eq_false_iff_ne]; exact c2
        have HF : Hid (V = if r8 = true then v9 else 8) := Lib.hid (by rw [HP.out, HXY.out]; simp [c2])
        clear HP c1 c2
        go_wp2_with fail
        refine region_ext (by kernel_rfl) (by kernel_rfl) ?_
        repeat (go_big_quiet_step (first | (go_at_call 98; with_reducible exact quiet_ext (HCA.out _)) | (go_at_call 98; with_reducible exact quiet_ext (HCB.out _))))
        refine wpQuiet_nil ?_
        rintro _ ⟨z, rfl⟩
        clear rA rB rT rX1 rX2 rY1 rY2
        go_wp2_with fail
        go_roundw
        case rel => exact ⟨j + 1, by omega, by go_num, hid_trans HF (by rw [HR8.out]), HBI.out.trans' (HBB.out.trans' z.h)⟩
        case measure => simp [intOf]; omega
       have d2 : (xb == yz) = true := by rw [beq_iff_eq]; exact c2
       have HF : Hid (V = 8) := Lib.hid (by rw [HP.out, HXY.out]; simp [c1, c2])
       clear HP c1 c2
       go_wp2_with fail
       refine region_ext (by kernel_rfl) (by kernel_rfl) ?_
       repeat (go_big_quiet_step (first | (go_at_call 98; with_reducible exact quiet_ext (HCA.out _)) | (go_at_call 98; with_reducible exact quiet_ext (HCB.out _))))
       refine wpQuiet_nil ?_
       rintro _ ⟨z, rfl⟩
       clear rA rB rT rX1 rX2 rY1 rY2
       go_wp2_with fail
       go_ret
       exact ⟨ret_int HF.out.symm, HWI.out.trans' (HBB.out.trans' z.h)⟩
      ·have HF : Hid (V = if dup8 T (D.take (i + 1)) (D.drop (i + 1)) = true then v9 else 8) := Lib.hid (by
        have hlen : (D.take i).length = i := by rw [List.length_take]; omega
        rw [HI.out, drop_all (D.take i) j (by omega), HQ.out q rfl]; simp [noPair])
       clear HI
       go_wp2_with fail
       go_roundw
       case rel => exact ⟨i + 1, by omega, by go_num, HF, HR2.out.trans' (HBO.out.trans' HBI.out)⟩
       case measure => simp [intOf]; omega
    ·have HF : Hid (V = v9) := Lib.hid (by rw [HR.out, drop_all D i (by omega)]; rfl)
     clear HR
     have HB9 : Hid (V = if protoL T (R.drop 0) = true then 0 else 9) := hid_trans HF (by rw [HPR.out]; rfl)
     clear HF HPR
     obtain ⟨wc, rfl⟩ : ∃ wc : World, wc = wr := ⟨_, rfl⟩
     go_wp2_with fail
     clear rT hz
     go_loopw [105] (fun i wr => ∃ (k : Nat), k ≤ R.length ∧ i = .int .i64 k ∧ Hid (V = if protoL T (R.drop k) = true then 0 else 9) ∧ Ext wc wr) (fun i _ => R.length - (intOf i).toNat)
     case atStart => exact ⟨0, Nat.zero_le _, rfl, HB9, Ext.refl _⟩
     case round =>
      obtain ⟨k9, hk9, rfl, HR, hbr⟩ := hrel
      have HBX3 := Lib.hid (HBX2.out.trans' hbr)
      have HBR3 := Lib.hid (HBR2.out.trans' hbr)
      have HR3 := Lib.hid hbr
      have hz : w.heap.size < wr.heap.size := by have h' := HBX3.out.b.size; simp at h'; omega
      clear hbr HB9
      by_cases hlt : k9 < R.length
      ·obtain ⟨b, o, za, zn, zc, ha, h0, h1, h2⟩ := (HX11.out.ext HBR3.out).at_ hlt
       subst ha
       have HDR : Hid (R.drop k9 = R[k9] :: R.drop (k9 + 1)) := drop_at R k9 hlt
       generalize R[k9] = x at *
       obtain ⟨xl, xt⟩ := x
       simp only at h0 h1 h2
       obtain ⟨hzn, _, _⟩ := h2.len
       subst hzn
       obtain ⟨q, hq⟩ : ∃ q, q = protoL T (R.drop (k9 + 1)) := ⟨_, rfl⟩
       have HQ := Lib.hid hq
       have HS := hid_trans HR (show _ = if (plainB T xl && (protoTo T xt && q)) = true then 0 else 9 from by rw [HDR.out, hq]; simp [protoL, Bool.and_assoc])
       clear HR HDR hq
       obtain ⟨wo, rfl⟩ : ∃ wo : World, wo = wr := ⟨_, rfl⟩
       have hbo : Ext wo (wo.alloc (.cells #[.int .i64 xl, .slice za xt.length zc] 74)) := (Ext.refl _).alloc_ _
       have HBO := Lib.hid hbo
       have H2 := Lib.hid (h2.ext hbo)
       clear hbo h2
       obtain ⟨fa, fn, fc, hf, hfd⟩ := rfind_det D A9 D.length c9 xl w HX9.out
       have hfn := hf.len.1
       obtain ⟨vi, hvi⟩ : ∃ v, ignT T xl = v := ⟨_, rfl⟩
       have HWO := Lib.hid (HBR3.out.trans' HBO.out)
       have HFD : Hid (∀ zw, Ext (wo.alloc (.cells #[.int .i64 xl, .slice za xt.length zc] 74)) zw → Calls Tryz.prog 97 #[.slice A9 D.length c9, .int .i64 xl] zw fun e w'' => e = .returned (.slice fa fn fc) ∧ Ext zw w'') := Lib.hid (fun zw hz => hfd zw (HWO.out.trans' hz))
       have HIC : Hid (∀ zw, Ext (wo.alloc (.cells #[.int .i64 xl, .slice za xt.length zc] 74)) zw → Calls Tryz.prog 90 #[TV.v ⟨s0, s1, s2, s3, s4, s5, s6, s7, s8, ⟨A9, D.length, c9⟩, ⟨A10, X.length, c10⟩, ⟨some ⟨b, o, none⟩, R.length, c11⟩⟩, .int .i64 xl] zw fun e w'' => e = .returned (.bool vi) ∧ Ext zw w'') := Lib.hid (fun zw hz => HIG.out xl vi hvi zw (HWO.out.trans' hz))
       have hpl : plainB T xl = (decide (fn = 0) && !vi) := by
        rw [plainB, hvi, ← HD.out]
        congr 1
        cases hq : mpFind D xl with
        | nil => rw [hq] at hfn; rw [hfn]; rfl
        | cons y q => rw [hq] at hfn; rw [hfn]; simp
       have HS1 : Hid (V = if ((decide (fn = 0) && !vi) && (protoTo T xt && q)) = true then 0 else 9) := hid_trans HS (by rw [hpl])
       have rT : ∀ p : Nat, wo.cell? ⟨w.heap.size, p, none⟩ = (#[.slice s0.a s0.n s0.c, .slice s1.a s1.n s1.c, .slice s2.a s2.n s2.c, .slice s3.a s3.n s3.c, .slice s4.a s4.n s4.c, .slice s5.a s5.n s5.c, .slice s6.a s6.n s6.c, .slice s7.a s7.n s7.c, .slice s8.a s8.n s8.c, .slice A9 D.length c9, .slice A10 X.length c10, .slice (some ⟨b, o, none⟩) R.length c11] : Array Value)[p]? := box_at HBX3.out
       have hzw : w.heap.size < wo.heap.size := by have h' := HBX3.out.b.size; simp at h'; omega
       clear HS hf hfd hfn hvi hpl
       by_cases c1 : fn = 0
       case neg =>
        have d1 : decide (0 < fn) = true := by rw [decide_eq_true_eq]; omega
        have d2 : decide ((0 : Int) < (fn : Int)) = true := by rw [decide_eq_true_eq]; omega
        have HF : Hid (V = 9) := Lib.hid (by rw [HS1.out, decide_eq_false c1]; rfl)
        clear HS1 c1
        go_wp2_with (first
         | (go_at_call 97; with_reducible refine (HFD.out _ (Ext.refl _)).mono ?_; rintro e w2 ⟨rfl, hb2⟩; have rM2 : ∀ p : Nat, w2.cell? ⟨wo.heap.size, p, none⟩ = (#[.int .i64 xl, .slice za xt.length zc] : Array Value)[p]? := box_at (hb2); have rT2 : ∀ p : Nat, w2.cell? ⟨w.heap.size, p, none⟩ = (#[.slice s0.a s0.n s0.c, .slice s1.a s1.n s1.c, .slice s2.a s2.n s2.c, .slice s3.a s3.n s3.c, .slice s4.a s4.n s4.c, .slice s5.a s5.n s5.c, .slice s6.a s6.n s6.c, .slice s7.a s7.n s7.c, .slice s8.a s8.n s8.c, .slice A9 D.length c9, .slice A10 X.length c10, .slice (some ⟨b, o, none⟩) R.length c11] : Array Value)[p]? := box_at (HBX3.out.trans' (HBO.out.trans' (hb2))); have hz2 : wo.heap.size < w2.heap.size := by have h' := (hb2).b.size; simp at h'; omega)
         | (go_at_call 90; with_reducible refine (HIC.out _ hb2).mono ?_; rintro e w3 ⟨rfl, hb3⟩; have rM3 : ∀ p : Nat, w3.cell? ⟨wo.heap.size, p, none⟩ = (#[.int .i64 xl, .slice za xt.length zc] : Array Value)[p]? := box_at (hb2.trans' hb3); have rT3 : ∀ p : Nat, w3.cell? ⟨w.heap.size, p, none⟩ = (#[.slice s0.a s0.n s0.c, .slice s1.a s1.n s1.c, .slice s2.a s2.n s2.c, .slice s3.a s3.n s3.c, .slice s4.a s4.n s4.c, .slice s5.a s5.n s5.c, .slice s6.a s6.n s6.c, .slice s7.a s7.n s7.c, .slice s8.a s8.n s8.c, .slice A9 D.length c9, .slice A10 X.length c10, .slice (some ⟨b, o, none⟩) R.length c11] : Array Value)[p]? := box_at (HBX3.out.trans' (HBO.out.trans' (hb2.trans' hb3))); have hz3 : wo.heap.size < w3.heap.size := by have h' := (hb2.trans' hb3).b.size; simp at h'; omega))
        go_ret
        first | exact ⟨ret_int HF.out.symm, HWO.out.trans' (hb2.trans' hb3)⟩ | exact ⟨ret_int HF.out.symm, HWO.out.trans' hb2⟩
       have d1 : decide (0 < fn) = false := by rw [decide_eq_false_iff_not]; omega
       have d2 : decide ((0 : Int) < (fn : Int)) = false := by rw [decide_eq_false_iff_not]; omega
       cases vi
       case true =>
        have HF : Hid (V = 9) := Lib.hid (by rw [HS1.out, decide_eq_true c1]; rfl)
        clear HS1 c1
        go_wp2_with (first
         | (go_at_call 97; with_reducible refine (HFD.out _ (Ext.refl _)).mono ?_; rintro e w2 ⟨rfl, hb2⟩; have rM2 : ∀ p : Nat, w2.cell? ⟨wo.heap.size, p, none⟩ = (#[.int .i64 xl, .slice za xt.length zc] : Array Value)[p]? := box_at (hb2); have rT2 : ∀ p : Nat, w2.cell? ⟨w.heap.size, p, none⟩ = (#[.slice s0.a s0.n s0.c, .slice s1.a s1.n s1.c, .slice s2.a s2.n s2.c, .slice s3.a s3.n s3.c, .slice s4.a s4.n s4.c, .slice s5.a s5.n s5.c, .slice s6.a s6.n s6.c, .slice s7.a s7.n s7.c, .slice s8.a s8.n s8.c, .slice A9 D.length c9, .slice A10 X.length c10, .slice (some ⟨b, o, none⟩) R.length c11] : Array Value)[p]? := box_at (HBX3.out.trans' (HBO.out.trans' (hb2))); have hz2 : wo.heap.size < w2.heap.size := by have h' := (hb2).b.size; simp at h'; omega)
         | (go_at_call 90; with_reducible refine (HIC.out _ hb2).mono ?_; rintro e w3 ⟨rfl, hb3⟩; have rM3 : ∀ p : Nat, w3.cell? ⟨wo.heap.size, p, none⟩ = (#[.int .i64 xl, .slice za xt.length zc] : Array Value)[p]? := box_at (hb2.trans' hb3); have rT3 : ∀ p : Nat, w3.cell? ⟨w.heap.size, p, none⟩ = (#[.slice s0.a s0.n s0.c, .slice s1.a s1.n s1.c, .slice s2.a s2.n s2.c, .slice s3.a s3.n s3.c, .slice s4.a s4.n s4.c, .slice s5.a s5.n s5.c, .slice s6.a s6.n s6.c, .slice s7.a s7.n s7.c, .slice s8.a s8.n s8.c, .slice A9 D.length c9, .slice A10 X.length c10, .slice (some ⟨b, o, none⟩) R.length c11] : Array Value)[p]? := box_at (HBX3.out.trans' (HBO.out.trans' (hb2.trans' hb3))); have hz3 : wo.heap.size < w3.heap.size := by have h' := (hb2.trans' hb3).b.size; simp at h'; omega))
        go_ret
        first | exact ⟨ret_int HF.out.symm, HWO.out.trans' (hb2.trans' hb3)⟩ | exact ⟨ret_int HF.out.symm, HWO.out.trans' hb2⟩
       have HS2 : Hid (V = if (protoTo T (xt.drop 0) && q) = true then 0 else 9) := Lib.hid (by rw [HS1.out, decide_eq_true c1]; rfl)
       clear HS1 c1
       go_wp2_with (first
        | (go_at_call 97; with_reducible refine (HFD.out _ (Ext.refl _)).mono ?_; rintro e w2 ⟨rfl, hb2⟩; have rM2 : ∀ p : Nat, w2.cell? ⟨wo.heap.size, p, none⟩ = (#[.int .i64 xl, .slice za xt.length zc] : Array Value)[p]? := box_at (hb2); have rT2 : ∀ p : Nat, w2.cell? ⟨w.heap.size, p, none⟩ = (#[.slice s0.a s0.n s0.c, .slice s1.a s1.n s1.c, .slice s2.a s2.n s2.c, .slice s3.a s3.n s3.c, .slice s4.a s4.n s4.c, .slice s5.a s5.n s5.c, .slice s6.a s6.n s6.c, .slice s7.a s7.n s7.c, .slice s8.a s8.n s8.c, .slice A9 D.length c9, .slice A10 X.length c10, .slice (some ⟨b, o, none⟩) R.length c11] : Array Value)[p]? := box_at (HBX3.out.trans' (HBO.out.trans' (hb2))); have hz2 : wo.heap.size < w2.heap.size := by have h' := (hb2).b.size; simp at h'; omega)
        | (go_at_call 90; with_reducible refine (HIC.out _ hb2).mono ?_; rintro e w3 ⟨rfl, hb3⟩; have rM3 : ∀ p : Nat, w3.cell? ⟨wo.heap.size, p, none⟩ = (#[.int .i64 xl, .slice za xt.length zc] : Array Value)[p]? := box_at (hb2.trans' hb3); have rT3 : ∀ p : Nat, w3.cell? ⟨w.heap.size, p, none⟩ = (#[.slice s0.a s0.n s0.c, .slice s1.a s1.n s1.c, .slice s2.a s2.n s2.c, .slice s3.a s3.n s3.c, .slice s4.a s4.n s4.c, .slice s5.a s5.n s5.c, .slice s6.a s6.n s6.c, .slice s7.a s7.n s7.c, .slice s8.a s8.n s8.c, .slice A9 D.length c9, .slice A10 X.length c10, .slice (some ⟨b, o, none⟩) R.length c11] : Array Value)[p]? := box_at (HBX3.out.trans' (HBO.out.trans' (hb2.trans' hb3))); have hz3 : wo.heap.size < w3.heap.size := by have h' := (hb2.trans' hb3).b.size; simp at h'; omega))
       have HZ := Lib.hid (hb2.trans' hb3)
       clear rM2 rT2 rM3 rT3 hz2 hz3 HFD HIC d1 d2 hb2 hb3
       go_loopw [125] (fun i wr => ∃ (j : Nat), j ≤ xt.length ∧ i = .int .i64 j ∧ Hid (V = if (protoTo T (xt.drop j) && q) = true then 0 else 9) ∧ Ext w3 wr) (fun i _ => xt.length - (intOf i).toNat)
       case atStart => exact ⟨0, Nat.zero_le _, rfl, HS2, Ext.refl _⟩
       case round =>
        obtain ⟨j, hj, rfl, HI, hbi⟩ := hrel
        have HBI := Lib.hid hbi
        have HWI := Lib.hid (HWO.out.trans' (HZ.out.trans' hbi))
        have HWX := Lib.hid (HBX3.out.trans' (HBO.out.trans' (HZ.out.trans' hbi)))
        clear HS2
        by_cases hltj : j < xt.length
        ·obtain ⟨b5, o5, ha, h0⟩ := (H2.out.ext (HZ.out.trans' hbi)).at_ hltj
         subst ha
         have HDR : Hid (xt.drop j = xt[j] :: xt.drop (j + 1)) := drop_at xt j hltj
         generalize xt[j] = c at *
         obtain ⟨q2, hq2⟩ : ∃ q2, q2 = (protoTo T (xt.drop (j + 1)) && q) := ⟨_, rfl⟩
         have HQ2 := Lib.hid hq2
         have HS := hid_trans HI (show _ = if (!(!plainB T c || syllB c || !(mpFind T.pro c).isEmpty) && q2) = true then 0 else 9 from by rw [HDR.out, hq2]; simp only [protoTo, Bool.and_assoc])
         clear HI HDR hq2 hbi
         obtain ⟨wi, rfl⟩ : ∃ wi : World, wi = wr := ⟨_, rfl⟩
         obtain ⟨fa, fn, fc, hf, hfd⟩ := rfind_det D A9 D.length c9 c w HX9.out
         obtain ⟨ga, gn, gc, hg, hgd⟩ := rfind_det R _ R.length c11 c w HX11.out
         have hfn := hf.len.1
         have hgn := hg.len.1
         obtain ⟨vi, hvi⟩ : ∃ v, ignT T c = v := ⟨_, rfl⟩
         obtain ⟨vs, hvs⟩ : ∃ v, syllB c = v := ⟨_, rfl⟩
         have HFD : Hid (∀ zw, Ext wi zw → Calls Tryz.prog 97 #[.slice A9 D.length c9, .int .i64 c] zw fun e w'' => e = .returned (.slice fa fn fc) ∧ Ext zw w'') := Lib.hid (fun zw hz => hfd zw (HWI.out.trans' hz))
         have HFR : Hid (∀ zw, Ext wi zw → Calls Tryz.prog 97 #[.slice (some ⟨b, o, none⟩) R.length c11, .int .i64 c] zw fun e w'' => e = .returned (.slice ga gn gc) ∧ Ext zw w'') := Lib.hid (fun zw hz => hgd zw (HWI.out.trans' hz))
         have HIC : Hid (∀ zw, Ext wi zw → Calls Tryz.prog 90 #[TV.v ⟨s0, s1, s2, s3, s4, s5, s6, s7, s8, ⟨A9, D.length, c9⟩, ⟨A10, X.length, c10⟩, ⟨some ⟨b, o, none⟩, R.length, c11⟩⟩, .int .i64 c] zw fun e w'' => e = .returned (.bool vi) ∧ Ext zw w'') := Lib.hid (fun zw hz => HIG.out c vi hvi zw (HWI.out.trans' hz))
         have HSY : Hid (∀ zw, Ext wi zw → Calls Tryz.prog 87 #[.int .i64 c] zw fun e w'' => e = .returned (.bool vs) ∧ zw = w'') := Lib.hid (fun zw _ => by have h' := rsyll_spec c zw; rw [hvs] at h'; exact h')
         have hpl : plainB T c = (decide (fn = 0) && !vi) := by
          rw [plainB, hvi, ← HD.out]
          congr 1
          cases hq : mpFind D c with
          | nil => rw [hq] at hfn; rw [hfn]; rfl
          | cons y q => rw [hq] at hfn; rw [hfn]; simp
         have hpe : (mpFind T.pro c).isEmpty = decide (gn = 0) := by
          rw [← HR0.out]
          cases hq : mpFind R c with
          | nil => rw [hq] at hgn; rw [hgn]; rfl
          | cons y q => rw [hq] at hgn; rw [hgn]; simp
         have HS1 : Hid (V = if (!(!(decide (fn = 0) && !vi) || vs || !decide (gn = 0)) && q2) = true then 0 else 9) := hid_trans HS (by rw [hpl, hpe, hvs])
         have rT : ∀ p : Nat, wi.cell? ⟨w.heap.size, p, none⟩ = (#[.slice s0.a s0.n s0.c, .slice s1.a s1.n s1.c, .slice s2.a s2.n s2.c, .slice s3.a s3.n s3.c, .slice s4.a s4.n s4.c, .slice s5.a s5.n s5.c, .slice s6.a s6.n s6.c, .slice s7.a s7.n s7.c, .slice s8.a s8.n s8.c, .slice A9 D.length c9, .slice A10 X.length c10, .slice (some ⟨b, o, none⟩) R.length c11] : Array Value)[p]? := box_at HWX.out
         have hzi : w.heap.size < wi.heap.size := by have h' := HWX.out.b.size; simp at h'; omega
         clear HS hf hfd hfn hvi hpl hg hgd hgn hvs hpe
         by_cases c1 : fn = 0
         case neg =>
          have d1 : decide (0 < fn) = true := by rw [decide_eq_true_eq]; omega
          have d2 : decide ((0 : Int) < (fn : Int)) = true := by rw [decide_eq_true_eq]; omega
          have HF : Hid (V = 9) := Lib.hid (by rw [HS1.out, decide_eq_false c1]; rfl)
          clear HS1 c1
          go_wp2_with (first
           | (go_at_call 97; with_reducible refine (HFD.out _ (Ext.refl _)).mono ?_; rintro e w2 ⟨rfl, hb2⟩; have rT2 : ∀ p : Nat, w2.cell? ⟨w.heap.size, p, none⟩ = (#[.slice s0.a s0.n s0.c, .slice s1.a s1.n s1.c, .slice s2.a s2.n s2.c, .slice s3.a s3.n s3.c, .slice s4.a s4.n s4.c, .slice s5.a s5.n s5.c, .slice s6.a s6.n s6.c, .slice s7.a s7.n s7.c, .slice s8.a s8.n s8.c, .slice A9 D.length c9, .slice A10 X.length c10, .slice (some ⟨b, o, none⟩) R.length c11] : Array Value)[p]? := box_at (HWX.out.trans' (hb2)); have hz2 : w.heap.size < w2.heap.size := by have h' := (HWX.out.trans' (hb2)).b.size; simp at h'; omega)
           | (go_at_call 90; with_reducible refine (HIC.out _ hb2).mono ?_; rintro e w3 ⟨rfl, hb3⟩; have rT3 : ∀ p : Nat, w3.cell? ⟨w.heap.size, p, none⟩ = (#[.slice s0.a s0.n s0.c, .slice s1.a s1.n s1.c, .slice s2.a s2.n s2.c, .slice s3.a s3.n s3.c, .slice s4.a s4.n s4.c, .slice s5.a s5.n s5.c, .slice s6.a s6.n s6.c, .slice s7.a s7.n s7.c, .slice s8.a s8.n s8.c, .slice A9 D.length c9, .slice A10 X.length c10, .slice (some ⟨b, o, none⟩) R.length c11] : Array Value)[p]? := box_at (HWX.out.trans' (hb2.trans' hb3)); have hz3 : w.heap.size < w3.heap.size := by have h' := (HWX.out.trans' (hb2.trans' hb3)).b.size; simp at h'; omega)
           | (go_at_call 87; with_reducible refine (HSY.out _ (hb2.trans' hb3)).mono ?_; rintro e w' ⟨rfl, rfl⟩)
           | (go_at_call 97; with_reducible refine (HFR.out _ (hb2.trans' hb3)).mono ?_; rintro e w4 ⟨rfl, hb4⟩))
          go_ret
          first | exact ⟨ret_int HF.out.symm, HWI.out.trans' ((hb2.trans' hb3).trans' hb4)⟩ | exact ⟨ret_int HF.out.symm, HWI.out.trans' (hb2.trans' hb3)⟩ | exact ⟨ret_int HF.out.symm, HWI.out.trans' hb2⟩
         have d1 : decide (0 < fn) = false := by rw [decide_eq_false_iff_not]; omega
         have d2 : decide ((0 : Int) < (fn : Int)) = false := by rw [decide_eq_false_iff_not]; omega
         cases vi
         case true =>
          have HF : Hid (V = 9) := Lib.hid (by rw [HS1.out, decide_eq_true c1]; rfl)
          clear HS1 c1
          go_wp2_with (first
           | (go_at_call 97; with_reducible refine (HFD.out _ (Ext.refl _)).mono ?_; rintro e w2 ⟨rfl, hb2⟩; have rT2 : ∀ p : Nat, w2.cell? ⟨w.heap.size, p, none⟩ = (#[.slice s0.a s0.n s0.c, .slice s1.a s1.n s1.c, .slice s2.a s2.n s2.c, .slice s3.a s3.n s3.c, .slice s4.a s4.n s4.c, .slice s5.a s5.n s5.c, .slice s6.a s6.n s6.c, .slice s7.a s7.n s7.c, .slice s8.a s8.n s8.c, .slice A9 D.length c9, .slice A10 X.length c10, .slice (some ⟨b, o, none⟩) R.length c11] : Array Value)[p]? := box_at (HWX.out.trans' (hb2)); have hz2 : w.heap.size < w2.heap.size := by have h' := (HWX.out.trans' (hb2)).b.size; simp at h'; omega)
           | (go_at_call 90; with_reducible refine (HIC.out _ hb2).mono ?_; rintro e w3 ⟨rfl, hb3⟩; have rT3 : ∀ p : Nat, w3.cell? ⟨w.heap.size, p, none⟩ = (#[.slice s0.a s0.n s0.c, .slice s1.a s1.n s1.c, .slice s2.a s2.n s2.c, .slice s3.a s3.n s3.c, .slice s4.a s4.n s4.c, .slice s5.a s5.n s5.c, .slice s6.a s6.n s6.c, .slice s7.a s7.n s7.c, .slice s8.a s8.n s8.c, .slice A9 D.length c9, .slice A10 X.length c10, .slice (some ⟨b, o, none⟩) R.length c11] : Array Value)[p]? := box_at (HWX.out.trans' (hb2.trans' hb3)); have hz3 : w.heap.size < w3.heap.size := by have h' := (HWX.out.trans' (hb2.trans' hb3)).b.size; simp at h'; omega)
           | (go_at_call 87; with_reducible refine (HSY.out _ (hb2.trans' hb3)).mono ?_; rintro e w' ⟨rfl, rfl⟩)
           | (go_at_call 97; with_reducible refine (HFR.out _ (hb2.trans' hb3)).mono ?_; rintro e w4 ⟨rfl, hb4⟩))
          go_ret
          first | exact ⟨ret_int HF.out.symm, HWI.out.trans' ((hb2.trans' hb3).trans' hb4)⟩ | exact ⟨ret_int HF.out.symm, HWI.out.trans' (hb2.trans' hb3)⟩ | exact ⟨ret_int HF.out.symm, HWI.out.trans' hb2⟩
         cases vs
         case true =>
          have HF : Hid (V = 9) := Lib.hid (by rw [HS1.out, decide_eq_true c1]; rfl)
          clear HS1 c1
          go_wp2_with (first
           | (go_at_call 97; with_reducible refine (HFD.out _ (Ext.refl _)).mono ?_; rintro e w2 ⟨rfl, hb2⟩; have rT2 : ∀ p : Nat, w2.cell? ⟨w.heap.size, p, none⟩ = (#[.slice s0.a s0.n s0.c, .slice s1.a s1.n s1.c, .slice s2.a s2.n s2.c, .slice s3.a s3.n s3.c, .slice s4.a s4.n s4.c, .slice s5.a s5.n s5.c, .slice s6.a s6.n s6.c, .slice s7.a s7.n s7.c, .slice s8.a s8.n s8.c, .slice A9 D.length c9, .slice A10 X.length c10, .slice (some ⟨b, o, none⟩) R.length c11] : Array Value)[p]? := box_at (HWX.out.trans' (hb2)); have hz2 : w.heap.size < w2.heap.size := by have h' := (HWX.out.trans' (hb2)).b.size; simp at h'; omega)
           | (go_at_call 90; with_reducible refine (HIC.out _ hb2).mono ?_; rintro e w3 ⟨rfl, hb3⟩; have rT3 : ∀ p : Nat, w3.cell? ⟨w.heap.size, p, none⟩ = (#[.slice s0.a s0.n s0.c, .slice s1.a s1.n s1.c, .slice s2.a s2.n s2.c, .slice s3.a s3.n s3.c, .slice s4.a s4.n s4.c, .slice s5.a s5.n s5.c, .slice s6.a s6.n s6.c, .slice s7.a s7.n s7.c, .slice s8.a s8.n s8.c, .slice A9 D.length c9, .slice A10 X.length c10, .slice (some ⟨b, o, none⟩) R.length c11] : Array Value)[p]? := box_at (HWX.out.trans' (hb2.trans' hb3)); have hz3 : w.heap.size < w3.heap.size := by have h' := (HWX.out.trans' (hb2.trans' hb3)).b.size; simp at h'; omega)
           | (go_at_call 87; with_reducible refine (HSY.out _ (hb2.trans' hb3)).mono ?_; rintro e w' ⟨rfl, rfl⟩)
           | (go_at_call 97; with_reducible refine (HFR.out _ (hb2.trans' hb3)).mono ?_; rintro e w4 ⟨rfl, hb4⟩))
          go_ret
          first | exact ⟨ret_int HF.out.symm, HWI.out.trans' ((hb2.trans' hb3).trans' hb4)⟩ | exact ⟨ret_int HF.out.symm, HWI.out.trans' (hb2.trans' hb3)⟩ | exact ⟨ret_int HF.out.symm, HWI.out.trans' hb2⟩
         by_cases c2 : gn = 0
         case neg =>
          have d3 : decide (0 < gn) = true := by rw [decide_eq_true_eq]; omega
          have d4 : decide ((0 : Int) < (gn : Int)) = true := by rw [decide_eq_true_eq]; omega
          have HF : Hid (V = 9) := Lib.hid (by rw [HS1.out, decide_eq_true c1, decide_eq_false c2]; rfl)
          clear HS1 c1 c2
          go_wp2_with (first
           | (go_at_call 97; with_reducible refine (HFD.out _ (Ext.refl _)).mono ?_; rintro e w2 ⟨rfl, hb2⟩; have rT2 : ∀ p : Nat, w2.cell? ⟨w.heap.size, p, none⟩ = (#[.slice s0.a s0.n s0.c, .slice s1.a s1.n s1.c, .slice s2.a s2.n s2.c, .slice s3.a s3.n s3.c, .slice s4.a s4.n s4.c, .slice s5.a s5.n s5.c, .slice s6.a s6.n s6.c, .slice s7.a s7.n s7.c, .slice s8.a s8.n s8.c, .slice A9 D.length c9, .slice A10 X.length c10, .slice (some ⟨b, o, none⟩) R.length c11] : Array Value)[p]? := box_at (HWX.out.trans' (hb2)); have hz2 : w.heap.size < w2.heap.size := by have h' := (HWX.out.trans' (hb2)).b.size; simp at h'; omega)
           | (go_at_call 90; with_reducible refine (HIC.out _ hb2).mono ?_; rintro e w3 ⟨rfl, hb3⟩; have rT3 : ∀ p : Nat, w3.cell? ⟨w.heap.size, p, none⟩ = (#[.slice s0.a s0.n s0.c, .slice s1.a s1.n s1.c, .slice s2.a s2.n s2.c, .slice s3.a s3.n s3.c, .slice s4.a s4.n s4.c, .slice s5.a s5.n s5.c, .slice s6.a s6.n s6.c, .slice s7.a s7.n s7.c, .slice s8.a s8.n s8.c, .slice A9 D.length c9, .slice A10 X.length c10, .slice (some ⟨b, o, none⟩) R.length c11] : Array Value)[p]? := box_at (HWX.out.trans' (hb2.trans' hb3)); have hz3 : w.heap.size < w3.heap.size := by have h' := (HWX.out.trans' (hb2.trans' hb3)).b.size; simp at h'; omega)
           | (go_at_call 87; with_reducible refine (HSY.out _ (hb2.trans' hb3)).mono ?_; rintro e w' ⟨rfl, rfl⟩)
           | (go_at_call 97; with_reducible refine (HFR.out _ (hb2.trans' hb3)).mono ?_; rintro e w4 ⟨rfl, hb4⟩))
          go_ret
          first | exact ⟨ret_int HF.out.symm, HWI.out.trans' ((hb2.trans' hb3).trans' hb4)⟩ | exact ⟨ret_int HF.out.symm, HWI.out.trans' (hb2.trans' hb3)⟩ | exact ⟨ret_int HF.out.symm, HWI.out.trans' hb2⟩
         have d3 : decide (0 < gn) = false := by rw [decide_eq_false_iff_not]; omega
         have d4 : decide ((0 : Int) < (gn : Int)) = false := by rw [decide_eq_false_iff_not]; omega
         have HF : Hid (V = if (protoTo T (xt.drop (j + 1)) && q) = true then 0 else 9) := Lib.hid (by rw [HS1.out, decide_eq_true c1, decide_eq_true c2, HQ2.out]; rfl)
         clear HS1 c1 c2
         go_wp2_with (first
          | (go_at_call 97; with_reducible refine (HFD.out _ (Ext.refl _)).mono ?_; rintro e w2 ⟨rfl, hb2⟩; have rT2 : ∀ p : Nat, w2.cell? ⟨w.heap.size, p, none⟩ = (#[.slice s0.a s0.n s0.c, .slice s1.a s1.n s1.c, .slice s2.a s2.n s2.c, .slice s3.a s3.n s3.c, .slice s4.a s4.n s4.c, .slice s5.a s5.n s5.c, .slice s6.a s6.n s6.c, .slice s7.a s7.n s7.c, .slice s8.a s8.n s8.c, .slice A9 D.length c9, .slice A10 X.length c10, .slice (some ⟨b, o, none⟩) R.length c11] : Array Value)[p]? := box_at (HWX.out.trans' (hb2)); have hz2 : w.heap.size < w2.heap.size := by have h' := (HWX.out.trans' (hb2)).b.size; simp at h'; omega)
          | (go_at_call 90; with_reducible refine (HIC.out _ hb2).mono ?_; rintro e w3 ⟨rfl, hb3⟩; have rT3 : ∀ p : Nat, w3.cell? ⟨w.heap.size, p, none⟩ = (#[.slice s0.a s0.n s0.c, .slice s1.a s1.n s1.c, .slice s2.a s2.n s2.c, .slice s3.a s3.n s3.c, .slice s4.a s4.n s4.c, .slice s5.a s5.n s5.c, .slice s6.a s6.n s6.c, .slice s7.a s7.n s7.c, .slice s8.a s8.n s8.c, .slice A9 D.length c9, .slice A10 X.length c10, .slice (some ⟨b, o, none⟩) R.length c11] : Array Value)[p]? := box_at (HWX.out.trans' (hb2.trans' hb3)); have hz3 : w.heap.size < w3.heap.size := by have h' := (HWX.out.trans' (hb2.trans' hb3)).b.size; simp at h'; omega)
          | (go_at_call 87; with_reducible refine (HSY.out _ (hb2.trans' hb3)).mono ?_; rintro e w' ⟨rfl, rfl⟩)
          | (go_at_call 97; with_reducible refine (HFR.out _ (hb2.trans' hb3)).mono ?_; rintro e w4 ⟨rfl, hb4⟩))
         go_roundw
         case rel => exact ⟨j + 1, by omega, by go_num, HF, HBI.out.trans' ((hb2.trans' hb3).trans' hb4)⟩
         case measure => simp [intOf]; omega
        ·have HF : Hid (V = if protoL T (R.drop (k9 + 1)) = true then 0 else 9) := Lib.hid (by rw [HI.out, drop_all xt j (by omega), ← HQ.out]; rfl)
         clear HI
         go_wp2_with fail
         go_roundw
         case rel => exact ⟨k9 + 1, by omega, by go_num, HF, HR3.out.trans' (HBO.out.trans' (HZ.out.trans' HBI.out))⟩
         case measure => simp [intOf]; omega
      ·have HF : Hid (V = 0) := Lib.hid (by rw [HR.out, drop_all R k9 (by omega)]; rfl)
       clear HR
       go_wp2_with fail
       go_ret
       exact ⟨ret_int HF.out.symm, HBR3.out⟩
end Go.Proofs.YtbdabjhankgcmaaGreatDoor
