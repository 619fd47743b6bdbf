/- Walks of the reference: JoinerPermitted, JoinerCheck. (By program: vl_gen.py.) -/
import Derived.Test.YtbdabjhankgcmaaGreatDoorVk
namespace Go.Proofs.YtbdabjhankgcmaaGreatDoor
open Go.RowKit
theorem joinsB_neg {T : Tbl} {l : List Int} {i s : Int} (h : i < 0) : joinsB T l i s = false := by rw [joinsB, if_pos h]
set_option maxHeartbeats 6400000 in
set_option maxRecDepth 100000 in
theorem rjpermitted_spec (t : TV) (T : Tbl) (l : List Int) (A : Option Addr) (n c : Nat) (i : Int) (w : World) (ht : TblS w t T) (h : IntS w ⟨A, n, c⟩ l) :
  Calls Tryz.prog 133 #[t.v, .slice A n c, .int .i64 i] w fun e w' => e = .returned (.bool (jpermB T l i)) ∧ Ext w w' := by
 obtain ⟨hn, hcap, hmx⟩ := h.len
 subst hn
 have hba := tw_ext w t
 have HI := Lib.hid h
 have HT := Lib.hid ht
 by_cases c1 : i < 0
 ·have HF : Hid (jpermB T l i = false) := Lib.hid (by rw [jpermB, existsB_lo c1]; rfl)
  have d1 : decide (i < 0) = true := dec_t c1
  clear ht h
  go_enter Tryz.func133, Tryz.ntmps133
  go_wp2_with fail
  go_ret
  exact ⟨ret_bool HF.out.symm, hba⟩
 have d1 : decide (i < 0) = false := dec_f c1
 obtain ⟨i, rfl⟩ : ∃ k : Nat, i = (k : Int) := ⟨i.toNat, by omega⟩
 by_cases c2 : l.length ≤ i
 ·have HF : Hid (jpermB T l i = false) := Lib.hid (by rw [jpermB, existsB_hi (by omega)]; rfl)
  have d2 : decide (l.length ≤ i) = true := dec_t c2
  have d3 : decide ((l.length : Int) ≤ (i : Int)) = true := dec_t (by omega)
  clear ht h
  go_enter Tryz.func133, Tryz.ntmps133
  go_wp2_with fail
  go_ret
  exact ⟨ret_bool HF.out.symm, hba⟩
 have d2 : decide (l.length ≤ i) = false := dec_f c2
 have d3 : decide ((l.length : Int) ≤ (i : Int)) = false := dec_f (by omega)
 have HACC := Lib.hid (racc_spec t T l A l.length c _ (ht.ext_ hba) (h.ext hba))
 by_cases c3 : ordErr T l = 0
 case neg =>
  have HF : Hid (jpermB T l i = false) := Lib.hid (by rw [jpermB, existsB_err c3]; rfl)
  have e1 : (ordErr T l != 0) = true := by rw [bne_iff_ne]; exact c3
  generalize ordErr T l = oe at *
  clear c3 ht h
  go_enter Tryz.func133, Tryz.ntmps133
  go_wp2_with fail
  refine (HACC.out).mono ?_
  rintro e w1 ⟨rfl, hb1⟩
  go_wp2_with fail
  go_ret
  exact ⟨ret_bool HF.out.symm, hba.trans' hb1⟩
 have hi : i < l.length := by omega
 have hk0 : (0 : Int) ≤ (i : Int) := Int.natCast_nonneg _
 have hk1 : (i : Int) < (l.length : Int) := by omega
 have hbd1 := nextB_bd T l i hi false
 have hbd2 := nextB_bd T l i hi true
 have HEX : Hid (existsB T l i = true) := Lib.hid (existsB_yes c3 hi)
 have HB : Hid (jpermB T l i = jper T l i) := Lib.hid (by rw [jpermB, HEX.out]; rfl)
 rw [c3] at HACC
 obtain ⟨b, o, ha, h0⟩ := h.at_ hi
 subst ha
 have HD : Hid (l.getD i 0 = l[i]) := Lib.hid (getD_lt l i 0 hi)
 have HAT : Hid (∀ j, j < l.length → ∃ y, l.getD j 0 = y ∧ w.cell? ⟨b, o + j, none⟩ = some (.int .i64 y)) := Lib.hid (fun j hj => by
  obtain ⟨b', o', hbo, h2⟩ := HI.out.at_ hj
  injection hbo with hbo
  injection hbo with e1 e2
  subst e1 e2
  exact ⟨_, getD_lt l j 0 hj, h2⟩)
 have HLR : Hid (∀ a, nextB T l i false = a → ∀ w', Ext w w' → Calls Tryz.prog 174 #[t.v, .slice (some ⟨b, o, none⟩) l.length c, .int .i64 i] w' fun e w'' => e = .returned (.int .i64 a) ∧ Ext w' w'') := Lib.hid (fun a ha w' hw' => by
  have h' := rleft_spec t T l (some ⟨b, o, none⟩) l.length c i w' (HT.out.ext_ hw') (HI.out.ext hw')
  rw [show leftV T l i = a from by rw [leftV, if_pos HEX.out, ← ha]; rfl] at h'
  exact h')
 have HRR : Hid (∀ a, nextB T l i true = a → ∀ w', Ext w w' → Calls Tryz.prog 175 #[t.v, .slice (some ⟨b, o, none⟩) l.length c, .int .i64 i] w' fun e w'' => e = .returned (.int .i64 a) ∧ Ext w' w'') := Lib.hid (fun a ha w' hw' => by
  have h' := rright_spec t T l (some ⟨b, o, none⟩) l.length c i w' (HT.out.ext_ hw') (HI.out.ext hw')
  rw [show rightV T l i = a from by rw [rightV, if_pos HEX.out, ← ha]; rfl] at h'
  exact h')
 obtain ⟨ga, hga⟩ : ∃ a, nextB T l i false = a := ⟨_, rfl⟩
 obtain ⟨gb, hgb⟩ : ∃ a, nextB T l i true = a := ⟨_, rfl⟩
 rw [hga] at hbd1
 rw [hgb] at hbd2
 have HLA := Lib.hid (HLR.out ga hga)
 have HRA := Lib.hid (HRR.out gb hgb)
 obtain ⟨V, hV⟩ : ∃ V, V = jpermB T l i := ⟨_, rfl⟩
 have HV : Hid (V = if (!(l[i] == 8204) && !(l[i] == 8205)) = true then true else if (decide (0 < i) && clsT T (l.getD (i - 1) 0) == 9) = true then true else (l[i] == 8204 && joinsB T l ga 1 && joinsB T l gb 2)) := Lib.hid (by
  rw [hV, HB.out, jper, HD.out, hga, hgb])
 rw [← hV]
 clear hV hga hgb HB HLR HRR HEX ht h c1 c2 c3 HD
 generalize l[i] = x at *
 by_cases hx : x = 8205 ∨ x = 8204
 case neg =>
  simp only [not_or] at hx
  have e1 : (x != 8205) = true := by rw [bne_iff_ne]; exact hx.1
  have e2 : (x != 8204) = true := by rw [bne_iff_ne]; exact hx.2
  have HF : Hid (V = true) := Lib.hid (by
   have f1 : (x == 8205) = false := by rw [beq_eq_false_iff_ne]; exact hx.1
   have f2 : (x == 8204) = false := by rw [beq_eq_false_iff_ne]; exact hx.2
   rw [HV.out, f1, f2]; rfl)
  clear HV hx HAT HLA HRA
  go_enter Tryz.func133, Tryz.ntmps133
  go_wp2_with fail
  refine (HACC.out).mono ?_
  rintro e w1 ⟨rfl, hb1⟩
  have HBX := Lib.hid hb1
  have HW := Lib.hid (hba.trans' hb1)
  clear hb1 HACC
  have rT : ∀ z : ExtW w1, ∀ p : Nat, z.w.cell? ⟨w.heap.size, p, none⟩ = t.v.cells[p]? := fun z => box_at (HBX.out.trans' z.h)
  have rX : ∀ z : ExtW w1, z.w.cell? ⟨b, o + i, none⟩ = some (.int .i64 x) := fun z => keep_cell (ext_keep (HW.out.trans' z.h)) h0
  go_wp2_with fail
  refine region_ext (by kernel_rfl) (by kernel_rfl) ?_
  repeat (go_big_quiet_step (fail))
  refine wpQuiet_nil ?_
  rintro _ ⟨z, rfl⟩
  clear rT rX
  go_wp2_with fail
  go_ret
  exact ⟨ret_bool HF.out.symm, HW.out.trans' z.h⟩
 rcases hx with rfl | rfl
 case inl =>
  have HS0 : Hid (V = if (decide (0 < i) && clsT T (l.getD (i - 1) 0) == 9) = true then true else ((8205 : Int) == 8204 && joinsB T l ga 1 && joinsB T l gb 2)) := HV
  clear HV
  rcases Nat.eq_zero_or_pos i with hz | hpos
  case inl =>
   have hd2 : decide (0 < i) = false := dec_f (by omega)
   have HS : Hid (V = ((8205 : Int) == 8204 && joinsB T l ga 1 && joinsB T l gb 2)) := Lib.hid (by rw [HS0.out, hd2]; rfl)
   clear HS0 hz
   go_enter Tryz.func133, Tryz.ntmps133
   go_wp2_with fail
   refine (HACC.out).mono ?_
   rintro e w1 ⟨rfl, hb1⟩
   have HBX := Lib.hid hb1
   have HW := Lib.hid (hba.trans' hb1)
   clear hb1 HACC
   have rT : ∀ z : ExtW w1, ∀ p : Nat, z.w.cell? ⟨w.heap.size, p, none⟩ = t.v.cells[p]? := fun z => box_at (HBX.out.trans' z.h)
   have rX : ∀ z : ExtW w1, z.w.cell? ⟨b, o + i, none⟩ = some (.int .i64 8205) := fun z => keep_cell (ext_keep (HW.out.trans' z.h)) h0
   go_wp2_with fail
   refine region_ext (by kernel_rfl) (by kernel_rfl) ?_
   repeat (go_big_quiet_step (fail))
   refine wpQuiet_nil ?_
   rintro _ ⟨z, rfl⟩
   have HZ := Lib.hid z.h
   have HZW := Lib.hid (HW.out.trans' z.h)
   have rT2 : ∀ y : ExtW z.w, ∀ p : Nat, y.w.cell? ⟨w.heap.size, p, none⟩ = t.v.cells[p]? := fun y => box_at (HBX.out.trans' (HZ.out.trans' y.h))
   have HLZ : Hid (∀ y : ExtW z.w, Calls Tryz.prog 174 #[t.v, .slice (some ⟨b, o, none⟩) l.length c, .int .i64 i] y.w fun e w'' => e = .returned (.int .i64 ga) ∧ Ext y.w w'') := Lib.hid (fun y => HLA.out y.w (HZW.out.trans' y.h))
   have HRZ : Hid (∀ y : ExtW z.w, Calls Tryz.prog 175 #[t.v, .slice (some ⟨b, o, none⟩) l.length c, .int .i64 i] y.w fun e w'' => e = .returned (.int .i64 gb) ∧ Ext y.w w'') := Lib.hid (fun y => HRA.out y.w (HZW.out.trans' y.h))
   clear rT rX HLA HRA
   have HF : Hid (V = false) := Lib.hid (by rw [HS.out]; rfl)
   clear HS
   go_wp2_with fail
   refine region_ext (by kernel_rfl) (by kernel_rfl) ?_
   repeat (go_big_quiet_step (first | (go_at_call 174; with_reducible exact quiet_ext (HLZ.out _)) | (go_at_call 175; with_reducible exact quiet_ext (HRZ.out _))))
   refine wpQuiet_nil ?_
   rintro _ ⟨y, rfl⟩
   have HY := Lib.hid (HZW.out.trans' y.h)
   have HYB := Lib.hid (HBX.out.trans' (HZ.out.trans' y.h))
   have gX : y.w.cell? ⟨b, o + i, none⟩ = some (.int .i64 8205) := keep_cell (ext_keep HY.out) h0
   clear rT2
   go_wp2_with fail
   go_ret
   exact ⟨ret_bool HF.out.symm, HY.out⟩
  obtain ⟨j, hj⟩ : ∃ j, i = j + 1 := ⟨i - 1, by omega⟩
  obtain ⟨y0, hy, hcy⟩ := HAT.out j (by omega)
  have hd2 : decide (0 < i) = true := dec_t hpos
  have hsub : (i : Int) - 1 = (j : Int) := by omega
  have hjj0 : (0 : Int) ≤ (j : Int) := Int.natCast_nonneg _
  have hjj1 : (j : Int) < (l.length : Int) := by omega
  obtain ⟨cy, hcl⟩ : ∃ v, clsT T y0 = v := ⟨_, rfl⟩
  obtain ⟨v9, hv9⟩ : ∃ v, (cy == 9) = v := ⟨_, rfl⟩
  have HS1 : Hid (V = if v9 = true then true else ((8205 : Int) == 8204 && joinsB T l ga 1 && joinsB T l gb 2)) := Lib.hid (by rw [HS0.out, hd2, show i - 1 = j from by omega, hy, hcl, hv9]; rfl)
  have HC : Hid (∀ w', Ext w w' → Calls Tryz.prog 68 #[t.v, .int .i64 y0] w' fun e w'' => e = .returned (.int .i64 cy) ∧ Ext w' w'') := Lib.hid (fun w' hw' => by have h' := rclass_spec t T y0 w' (HT.out.ext_ hw'); rw [hcl] at h'; exact h')
  clear HS0 hpos hj hy hcl
  cases v9
  case true =>
   have HF : Hid (V = true) := Lib.hid (by rw [HS1.out]; rfl)
   clear HS1 HAT
   go_enter Tryz.func133, Tryz.ntmps133
   go_wp2_with fail
   refine (HACC.out).mono ?_
   rintro e w1 ⟨rfl, hb1⟩
   have HBX := Lib.hid hb1
   have HW := Lib.hid (hba.trans' hb1)
   clear hb1 HACC
   have rT : ∀ z : ExtW w1, ∀ p : Nat, z.w.cell? ⟨w.heap.size, p, none⟩ = t.v.cells[p]? := fun z => box_at (HBX.out.trans' z.h)
   have rX : ∀ z : ExtW w1, z.w.cell? ⟨b, o + i, none⟩ = some (.int .i64 8205) := fun z => keep_cell (ext_keep (HW.out.trans' z.h)) h0
   have rY : ∀ z : ExtW w1, z.w.cell? ⟨b, o + j, none⟩ = some (.int .i64 y0) := fun z => keep_cell (ext_keep (HW.out.trans' z.h)) hcy
   have HCZ : Hid (∀ z : ExtW w1, Calls Tryz.prog 68 #[t.v, .int .i64 y0] z.w fun e w'' => e = .returned (.int .i64 cy) ∧ Ext z.w w'') := Lib.hid (fun z => HC.out z.w (HW.out.trans' z.h))
   go_wp2_with fail
   refine region_ext (by kernel_rfl) (by kernel_rfl) ?_
   repeat (go_big_quiet_step (first | (go_at_call 68; with_reducible exact quiet_ext (HCZ.out _))))
   refine wpQuiet_nil ?_
   rintro _ ⟨z, rfl⟩
   clear rT rX rY
   go_wp2_with fail
   go_ret
   exact ⟨ret_bool HF.out.symm, HW.out.trans' z.h⟩
  have HS : Hid (V = ((8205 : Int) == 8204 && joinsB T l ga 1 && joinsB T l gb 2)) := Lib.hid (by rw [HS1.out]; rfl)
  clear HS1
  go_enter Tryz.func133, Tryz.ntmps133
  go_wp2_with fail
  refine (HACC.out).mono ?_
  rintro e w1 ⟨rfl, hb1⟩
  have HBX := Lib.hid hb1
  have HW := Lib.hid (hba.trans' hb1)
  clear hb1 HACC
  have rT : ∀ z : ExtW w1, ∀ p : Nat, z.w.cell? ⟨w.heap.size, p, none⟩ = t.v.cells[p]? := fun z => box_at (HBX.out.trans' z.h)
  have rX : ∀ z : ExtW w1, z.w.cell? ⟨b, o + i, none⟩ = some (.int .i64 8205) := fun z => keep_cell (ext_keep (HW.out.trans' z.h)) h0
  have rY : ∀ z : ExtW w1, z.w.cell? ⟨b, o + j, none⟩ = some (.int .i64 y0) := fun z => keep_cell (ext_keep (HW.out.trans' z.h)) hcy
  have HCZ : Hid (∀ z : ExtW w1, Calls Tryz.prog 68 #[t.v, .int .i64 y0] z.w fun e w'' => e = .returned (.int .i64 cy) ∧ Ext z.w w'') := Lib.hid (fun z => HC.out z.w (HW.out.trans' z.h))
  go_wp2_with fail
  refine region_ext (by kernel_rfl) (by kernel_rfl) ?_
  repeat (go_big_quiet_step (first | (go_at_call 68; with_reducible exact quiet_ext (HCZ.out _))))
  refine wpQuiet_nil ?_
  rintro _ ⟨z, rfl⟩
  clear rY
  have HZ := Lib.hid z.h
  have HZW := Lib.hid (HW.out.trans' z.h)
  have rT2 : ∀ y : ExtW z.w, ∀ p : Nat, y.w.cell? ⟨w.heap.size, p, none⟩ = t.v.cells[p]? := fun y => box_at (HBX.out.trans' (HZ.out.trans' y.h))
  have HLZ : Hid (∀ y : ExtW z.w, Calls Tryz.prog 174 #[t.v, .slice (some ⟨b, o, none⟩) l.length c, .int .i64 i] y.w fun e w'' => e = .returned (.int .i64 ga) ∧ Ext y.w w'') := Lib.hid (fun y => HLA.out y.w (HZW.out.trans' y.h))
  have HRZ : Hid (∀ y : ExtW z.w, Calls Tryz.prog 175 #[t.v, .slice (some ⟨b, o, none⟩) l.length c, .int .i64 i] y.w fun e w'' => e = .returned (.int .i64 gb) ∧ Ext y.w w'') := Lib.hid (fun y => HRA.out y.w (HZW.out.trans' y.h))
  clear rT rX HLA HRA
  have HF : Hid (V = false) := Lib.hid (by rw [HS.out]; rfl)
  clear HS
  go_wp2_with fail
  refine region_ext (by kernel_rfl) (by kernel_rfl) ?_
  repeat (go_big_quiet_step (first | (go_at_call 174; with_reducible exact quiet_ext (HLZ.out _)) | (go_at_call 175; with_reducible exact quiet_ext (HRZ.out _))))
  refine wpQuiet_nil ?_
  rintro _ ⟨y, rfl⟩
  have HY := Lib.hid (HZW.out.trans' y.h)
  have HYB := Lib.hid (HBX.out.trans' (HZ.out.trans' y.h))
  have gX : y.w.cell? ⟨b, o + i, none⟩ = some (.int .i64 8205) := keep_cell (ext_keep HY.out) h0
  clear rT2
  go_wp2_with fail
  go_ret
  exact ⟨ret_bool HF.out.symm, HY.out⟩
 have HS0 : Hid (V = if (decide (0 < i) && clsT T (l.getD (i - 1) 0) == 9) = true then true else ((8204 : Int) == 8204 && joinsB T l ga 1 && joinsB T l gb 2)) := HV
 clear HV
 rcases Nat.eq_zero_or_pos i with hz | hpos
 case inl =>
  have hd2 : decide (0 < i) = false := dec_f (by omega)
  have HS : Hid (V = ((8204 : Int) == 8204 && joinsB T l ga 1 && joinsB T l gb 2)) := Lib.hid (by rw [HS0.out, hd2]; rfl)
  clear HS0 hz
  go_enter Tryz.func133, Tryz.ntmps133
  go_wp2_with fail
  refine (HACC.out).mono ?_
  rintro e w1 ⟨rfl, hb1⟩
  have HBX := Lib.hid hb1
  have HW := Lib.hid (hba.trans' hb1)
  clear hb1 HACC
  have rT : ∀ z : ExtW w1, ∀ p : Nat, z.w.cell? ⟨w.heap.size, p, none⟩ = t.v.cells[p]? := fun z => box_at (HBX.out.trans' z.h)
  have rX : ∀ z : ExtW w1, z.w.cell? ⟨b, o + i, none⟩ = some (.int .i64 8204) := fun z => keep_cell (ext_keep (HW.out.trans' z.h)) h0
  go_wp2_with fail
  refine region_ext (by kernel_rfl) (by kernel_rfl) ?_
  repeat (go_big_quiet_step (fail))
  refine wpQuiet_nil ?_
  rintro _ ⟨z, rfl⟩
  have HZ := Lib.hid z.h
  have HZW := Lib.hid (HW.out.trans' z.h)
  have rT2 : ∀ y : ExtW z.w, ∀ p : Nat, y.w.cell? ⟨w.heap.size, p, none⟩ = t.v.cells[p]? := fun y => box_at (HBX.out.trans' (HZ.out.trans' y.h))
  have HLZ : Hid (∀ y : ExtW z.w, Calls Tryz.prog 174 #[t.v, .slice (some ⟨b, o, none⟩) l.length c, .int .i64 i] y.w fun e w'' => e = .returned (.int .i64 ga) ∧ Ext y.w w'') := Lib.hid (fun y => HLA.out y.w (HZW.out.trans' y.h))
  have HRZ : Hid (∀ y : ExtW z.w, Calls Tryz.prog 175 #[t.v, .slice (some ⟨b, o, none⟩) l.length c, .int .i64 i] y.w fun e w'' => e = .returned (.int .i64 gb) ∧ Ext y.w w'') := Lib.hid (fun y => HRA.out y.w (HZW.out.trans' y.h))
  clear rT rX HLA HRA
  by_cases ca : ga < 0
  case pos =>
   have da : decide (ga < 0) = true := dec_t ca
   have HF : Hid (V = false) := Lib.hid (by rw [HS.out, joinsB, if_pos ca]; rfl)
   clear HS
   go_wp2_with fail
   refine region_ext (by kernel_rfl) (by kernel_rfl) ?_
   repeat (go_big_quiet_step (first | (go_at_call 174; with_reducible exact quiet_ext (HLZ.out _)) | (go_at_call 175; with_reducible exact quiet_ext (HRZ.out _))))
   refine wpQuiet_nil ?_
   rintro _ ⟨y, rfl⟩
   have HY := Lib.hid (HZW.out.trans' y.h)
   have HYB := Lib.hid (HBX.out.trans' (HZ.out.trans' y.h))
   have gX : y.w.cell? ⟨b, o + i, none⟩ = some (.int .i64 8204) := keep_cell (ext_keep HY.out) h0
   clear rT2
   go_wp2_with fail
   go_ret
   exact ⟨ret_bool HF.out.symm, HY.out⟩
  have da : decide (ga < 0) = false := dec_f ca
  by_cases cb : gb < 0
  case pos =>
   have db : decide (gb < 0) = true := dec_t cb
   have HF : Hid (V = false) := Lib.hid (by rw [HS.out, joinsB_neg cb]; simp)
   clear HS
   go_wp2_with fail
   refine region_ext (by kernel_rfl) (by kernel_rfl) ?_
   repeat (go_big_quiet_step (first | (go_at_call 174; with_reducible exact quiet_ext (HLZ.out _)) | (go_at_call 175; with_reducible exact quiet_ext (HRZ.out _))))
   refine wpQuiet_nil ?_
   rintro _ ⟨y, rfl⟩
   have HY := Lib.hid (HZW.out.trans' y.h)
   have HYB := Lib.hid (HBX.out.trans' (HZ.out.trans' y.h))
   have gX : y.w.cell? ⟨b, o + i, none⟩ = some (.int .i64 8204) := keep_cell (ext_keep HY.out) h0
   clear rT2
   go_wp2_with fail
   go_ret
   exact ⟨ret_bool HF.out.symm, HY.out⟩
  have db : decide (gb < 0) = false := dec_f cb
  obtain ⟨na, rfl⟩ : ∃ k : Nat, ga = (k : Int) := ⟨ga.toNat, by omega⟩
  obtain ⟨nb, rfl⟩ : ∃ k : Nat, gb = (k : Int) := ⟨gb.toNat, by omega⟩
  obtain ⟨u, hu, hcu⟩ := HAT.out na (by omega)
  obtain ⟨v, hv, hcv⟩ := HAT.out nb (by omega)
  obtain ⟨ju, hju⟩ : ∃ j, joiT T u = j := ⟨_, rfl⟩
  obtain ⟨jv, hjv⟩ : ∃ j, joiT T v = j := ⟨_, rfl⟩
  have HF : Hid (V = ((ju == 1 || ju == 3) && (jv == 2 || jv == 3))) := Lib.hid (by
   rw [HS.out, joinsB, if_neg ca, joinsB, if_neg cb, Int.toNat_natCast, Int.toNat_natCast, hu, hv, hju, hjv]; rfl)
  have HJU : Hid (∀ w', Ext w w' → Calls Tryz.prog 176 #[t.v, .int .i64 u] w' fun e w'' => e = .returned (.int .i64 ju) ∧ Ext w' w'') := Lib.hid (fun w' hw' => by have h' := rjoining_spec t T u w' (HT.out.ext_ hw'); rw [hju] at h'; exact h')
  have HJV : Hid (∀ w', Ext w w' → Calls Tryz.prog 176 #[t.v, .int .i64 v] w' fun e w'' => e = .returned (.int .i64 jv) ∧ Ext w' w'') := Lib.hid (fun w' hw' => by have h' := rjoining_spec t T v w' (HT.out.ext_ hw'); rw [hjv] at h'; exact h')
  have hna1 : (na : Int) < (l.length : Int) := hbd1.1
  have hnb1 : (nb : Int) < (l.length : Int) := hbd2.1
  have hna0 : (0 : Int) ≤ (na : Int) := Int.natCast_nonneg _
  have hnb0 : (0 : Int) ≤ (nb : Int) := Int.natCast_nonneg _
  clear HS hu hv hju hjv HAT hbd1 hbd2 ca cb
  go_wp2_with fail
  refine region_ext (by kernel_rfl) (by kernel_rfl) ?_
  repeat (go_big_quiet_step (first | (go_at_call 174; with_reducible exact quiet_ext (HLZ.out _)) | (go_at_call 175; with_reducible exact quiet_ext (HRZ.out _))))
  refine wpQuiet_nil ?_
  rintro _ ⟨y, rfl⟩
  have HY := Lib.hid (HZW.out.trans' y.h)
  have HYB := Lib.hid (HBX.out.trans' (HZ.out.trans' y.h))
  have gX : y.w.cell? ⟨b, o + i, none⟩ = some (.int .i64 8204) := keep_cell (ext_keep HY.out) h0
  clear rT2
  go_wp2_with fail
  have rT3 : ∀ q : ExtW y.w, ∀ p : Nat, q.w.cell? ⟨w.heap.size, p, none⟩ = t.v.cells[p]? := fun q => box_at (HYB.out.trans' q.h)
  have rU3 : ∀ q : ExtW y.w, q.w.cell? ⟨b, o + na, none⟩ = some (.int .i64 u) := fun q => keep_cell (ext_keep (HY.out.trans' q.h)) hcu
  have rV3 : ∀ q : ExtW y.w, q.w.cell? ⟨b, o + nb, none⟩ = some (.int .i64 v) := fun q => keep_cell (ext_keep (HY.out.trans' q.h)) hcv
  have HJU3 : Hid (∀ q : ExtW y.w, Calls Tryz.prog 176 #[t.v, .int .i64 u] q.w fun e w'' => e = .returned (.int .i64 ju) ∧ Ext q.w w'') := Lib.hid (fun q => HJU.out q.w (HY.out.trans' q.h))
  have HJV3 : Hid (∀ q : ExtW y.w, Calls Tryz.prog 176 #[t.v, .int .i64 v] q.w fun e w'' => e = .returned (.int .i64 jv) ∧ Ext q.w w'') := Lib.hid (fun q => HJV.out q.w (HY.out.trans' q.h))
  clear gX hcu hcv
  refine region_ext (by kernel_rfl) (by kernel_rfl) ?_
  repeat (go_big_quiet_step (first | (go_at_call 176; with_reducible exact quiet_ext (HJU3.out _)) | (go_at_call 176; with_reducible exact quiet_ext (HJV3.out _))))
  refine wpQuiet_nil ?_
  rintro _ ⟨q, rfl⟩
  clear rT3 rU3 rV3
  obtain ⟨b1, k1⟩ : ∃ v, (ju == 1) = v := ⟨_, rfl⟩
  obtain ⟨b2, k2⟩ : ∃ v, (ju == 3) = v := ⟨_, rfl⟩
  obtain ⟨b3, k3⟩ : ∃ v, (jv == 2) = v := ⟨_, rfl⟩
  obtain ⟨b4, k4⟩ : ∃ v, (jv == 3) = v := ⟨_, rfl⟩
  have HF2 : Hid (V = ((b1 || b2) && (b3 || b4))) := Lib.hid (by rw [HF.out, k1, k2, k3, k4])
  clear HF
  cases b1 <;> cases b2 <;> cases b3 <;> cases b4
  all_goals
   go_wp2_with fail
   go_ret
   exact ⟨ret_bool HF2.out.symm, HY.out.trans' q.h⟩
 obtain ⟨j, hj⟩ : ∃ j, i = j + 1 := ⟨i - 1, by omega⟩
 obtain ⟨y0, hy, hcy⟩ := HAT.out j (by omega)
 have hd2 : decide (0 < i) = true := dec_t hpos
 have hsub : (i : Int) - 1 = (j : Int) := by omega
 have hjj0 : (0 : Int) ≤ (j : Int) := Int.natCast_nonneg _
 have hjj1 : (j : Int) < (l.length : Int) := by omega
 obtain ⟨cy, hcl⟩ : ∃ v, clsT T y0 = v := ⟨_, rfl⟩
 obtain ⟨v9, hv9⟩ : ∃ v, (cy == 9) = v := ⟨_, rfl⟩
 have HS1 : Hid (V = if v9 = true then true else ((8204 : Int) == 8204 && joinsB T l ga 1 && joinsB T l gb 2)) := Lib.hid (by rw [HS0.out, hd2, show i - 1 = j from by omega, hy, hcl, hv9]; rfl)
 have HC : Hid (∀ w', Ext w w' → Calls Tryz.prog 68 #[t.v, .int .i64 y0] w' fun e w'' => e = .returned (.int .i64 cy) ∧ Ext w' w'') := Lib.hid (fun w' hw' => by have h' := rclass_spec t T y0 w' (HT.out.ext_ hw'); rw [hcl] at h'; exact h')
 clear HS0 hpos hj hy hcl
 cases v9
 case true =>
  have HF : Hid (V = true) := Lib.hid (by rw [HS1.out]; rfl)
  clear HS1 HAT
  go_enter Tryz.func133, Tryz.ntmps133
  go_wp2_with fail
  refine (HACC.out).mono ?_
  rintro e w1 ⟨rfl, hb1⟩
  have HBX := Lib.hid hb1
  have HW := Lib.hid (hba.trans' hb1)
  clear hb1 HACC
  have rT : ∀ z : ExtW w1, ∀ p : Nat, z.w.cell? ⟨w.heap.size, p, none⟩ = t.v.cells[p]? := fun z => box_at (HBX.out.trans' z.h)
  have rX : ∀ z : ExtW w1, z.w.cell? ⟨b, o + i, none⟩ = some (.int .i64 8204) := fun z => keep_cell (ext_keep (HW.out.trans' z.h)) h0
  have rY : ∀ z : ExtW w1, z.w.cell? ⟨b, o + j, none⟩ = some (.int .i64 y0) := fun z => keep_cell (ext_keep (HW.out.trans' z.h)) hcy
  have HCZ : Hid (∀ z : ExtW w1, Calls Tryz.prog 68 #[t.v, .int .i64 y0] z.w fun e w'' => e = .returned (.int .i64 cy) ∧ Ext z.w w'') := Lib.hid (fun z => HC.out z.w (HW.out.trans' z.h))
  go_wp2_with fail
  refine region_ext (by kernel_rfl) (by kernel_rfl) ?_
  repeat (go_big_quiet_step (first | (go_at_call 68; with_reducible exact quiet_ext (HCZ.out _))))
  refine wpQuiet_nil ?_
  rintro _ ⟨z, rfl⟩
  clear rT rX rY
  go_wp2_with fail
  go_ret
  exact ⟨ret_bool HF.out.symm, HW.out.trans' z.h⟩
 have HS : Hid (V = ((8204 : Int) == 8204 && joinsB T l ga 1 && joinsB T l gb 2)) := Lib.hid (by rw [HS1.out]; rfl)
 clear HS1
 go_enter Tryz.func133, Tryz.ntmps133
 go_wp2_with fail
 refine (HACC.out).mono ?_
 rintro e w1 ⟨rfl, hb1⟩
 have HBX := Lib.hid hb1
 have HW := Lib.hid (hba.trans' hb1)
 clear hb1 HACC
 have rT : ∀ z : ExtW w1, ∀ p : Nat, z.w.cell? ⟨w.heap.size, p, none⟩ = t.v.cells[p]? := fun z => box_at (HBX.out.trans' z.h)
 have rX : ∀ z : ExtW w1, z.w.cell? ⟨b, o + i, none⟩ = some (.int .i64 8204) := fun z => keep_cell (ext_keep (HW.out.trans' z.h)) h0
 have rY : ∀ z : ExtW w1, z.w.cell? ⟨b, o + j, none⟩ = some (.int .i64 y0) := fun z => keep_cell (ext_keep (HW.out.trans' z.h)) hcy
 have HCZ : Hid (∀ z : ExtW w1, Calls Tryz.prog 68 #[t.v, .int .i64 y0] z.w fun e w'' => e = .returned (.int .i64 cy) ∧ Ext z.w w'') := Lib.hid (fun z => HC.out z.w (HW.out.trans' z.h))
 go_wp2_with fail
 refine region_ext (by kernel_rfl) (by kernel_rfl) ?_
 repeat (go_big_quiet_step (first | (go_at_call 68; with_reducible exact quiet_ext (HCZ.out _))))
 refine wpQuiet_nil ?_
 rintro _ ⟨z, rfl⟩
 clear rY
 have HZ := Lib.hid z.h
 have HZW := Lib.hid (HW.out.trans' z.h)
 have rT2 : ∀ y : ExtW z.w, ∀ p : Nat, y.w.cell? ⟨w.heap.size, p, none⟩ = t.v.cells[p]? := fun y => box_at (HBX.out.trans' (HZ.out.trans' y.h))
 have HLZ : Hid (∀ y : ExtW z.w, Calls Tryz.prog 174 #[t.v, .slice (some ⟨b, o, none⟩) l.length c, .int .i64 i] y.w fun e w'' => e = .returned (.int .i64 ga) ∧ Ext y.w w'') := Lib.hid (fun y => HLA.out y.w (HZW.out.trans' y.h))
 have HRZ : Hid (∀ y : ExtW z.w, Calls Tryz.prog 175 #[t.v, .slice (some ⟨b, o, none⟩) l.length c, .int .i64 i] y.w fun e w'' => e = .returned (.int .i64 gb) ∧ Ext y.w w'') := Lib.hid (fun y => HRA.out y.w (HZW.out.trans' y.h))
 clear rT rX HLA HRA
 by_cases ca : ga < 0
 case pos =>
  have da : decide (ga < 0) = true := dec_t ca
  have HF : Hid (V = false) := Lib.hid (by rw [HS.out, joinsB, if_pos ca]; rfl)
  clear HS
  go_wp2_with fail
  refine region_ext (by kernel_rfl) (by kernel_rfl) ?_
  repeat (go_big_quiet_step (first | (go_at_call 174; with_reducible exact quiet_ext (HLZ.out _)) | (go_at_call 175; with_reducible exact quiet_ext (HRZ.out _))))
  refine wpQuiet_nil ?_
  rintro _ ⟨y, rfl⟩
  have HY := Lib.hid (HZW.out.trans' y.h)
  have HYB := Lib.hid (HBX.out.trans' (HZ.out.trans' y.h))
  have gX : y.w.cell? ⟨b, o + i, none⟩ = some (.int .i64 8204) := keep_cell (ext_keep HY.out) h0
  clear rT2
  go_wp2_with fail
  go_ret
  exact ⟨ret_bool HF.out.symm, HY.out⟩
 have da : decide (ga < 0) = false := dec_f ca
 by_cases cb : gb < 0
 case pos =>
  have db : decide (gb < 0) = true := dec_t cb
  have HF : Hid (V = false) := Lib.hid (by rw [HS.out, joinsB_neg cb]; simp)
  clear HS
  go_wp2_with fail
  refine region_ext (by kernel_rfl) (by kernel_rfl) ?_
  repeat (go_big_quiet_step (first | (go_at_call 174; with_reducible exact quiet_ext (HLZ.out _)) | (go_at_call 175; with_reducible exact quiet_ext (HRZ.out _))))
  refine wpQuiet_nil ?_
  rintro _ ⟨y, rfl⟩
  have HY := Lib.hid (HZW.out.trans' y.h)
  have HYB := Lib.hid (HBX.out.trans' (HZ.out.trans' y.h))
  have gX : y.w.cell? ⟨b, o + i, none⟩ = some (.int .i64 8204) := keep_cell (ext_keep HY.out) h0
  clear rT2
  go_wp2_with fail
  go_ret
  exact ⟨ret_bool HF.out.symm, HY.out⟩
 have db : decide (gb < 0) = false := dec_f cb
 obtain ⟨na, rfl⟩ : ∃ k : Nat, ga = (k : Int) := ⟨ga.toNat, by omega⟩
 obtain ⟨nb, rfl⟩ : ∃ k : Nat, gb = (k : Int) := ⟨gb.toNat, by omega⟩
 obtain ⟨u, hu, hcu⟩ := HAT.out na (by omega)
 obtain ⟨v, hv, hcv⟩ := HAT.out nb (by omega)
 obtain ⟨ju, hju⟩ : ∃ j, joiT T u = j := ⟨_, rfl⟩
 obtain ⟨jv, hjv⟩ : ∃ j, joiT T v = j := ⟨_, rfl⟩
 have HF : Hid (V = ((ju == 1 || ju == 3) && (jv == 2 || jv == 3))) := Lib.hid (by
  rw [HS.out, joinsB, if_neg ca, joinsB, if_neg cb, Int.toNat_natCast, Int.toNat_natCast, hu, hv, hju, hjv]; rfl)
 have HJU : Hid (∀ w', Ext w w' → Calls Tryz.prog 176 #[t.v, .int .i64 u] w' fun e w'' => e = .returned (.int .i64 ju) ∧ Ext w' w'') := Lib.hid (fun w' hw' => by have h' := rjoining_spec t T u w' (HT.out.ext_ hw'); rw [hju] at h'; exact h')
 have HJV : Hid (∀ w', Ext w w' → Calls Tryz.prog 176 #[t.v, .int .i64 v] w' fun e w'' => e = .returned (.int .i64 jv) ∧ Ext w' w'') := Lib.hid (fun w' hw' => by have h' := rjoining_spec t T v w' (HT.out.ext_ hw'); rw [hjv] at h'; exact h')
 have hna1 : (na : Int) < (l.length : Int) := hbd1.1
 have hnb1 : (nb : Int) < (l.length : Int) := hbd2.1
 have hna0 : (0 : Int) ≤ (na : Int) := Int.natCast_nonneg _
 have hnb0 : (0 : Int) ≤ (nb : Int) := Int.natCast_nonneg _
 clear HS hu hv hju hjv HAT hbd1 hbd2 ca cb
 go_wp2_with fail
 refine region_ext (by kernel_rfl) (by kernel_rfl) ?_
 repeat (go_big_quiet_step (first | (go_at_call 174; with_reducible exact quiet_ext (HLZ.out _)) | (go_at_call 175; with_reducible exact quiet_ext (HRZ.out _))))
 refine wpQuiet_nil ?_
 rintro _ ⟨y, rfl⟩
 have HY := Lib.hid (HZW.out.trans' y.h)
 have HYB := Lib.hid (HBX.out.trans' (HZ.out.trans' y.h))
 have gX : y.w.cell? ⟨b, o + i, none⟩ = some (.int .i64 8204) := keep_cell (ext_keep HY.out) h0
 clear rT2
 go_wp2_with fail
 have rT3 : ∀ q : ExtW y.w, ∀ p : Nat, q.w.cell? ⟨w.heap.size, p, none⟩ = t.v.cells[p]? := fun q => box_at (HYB.out.trans' q.h)
 have rU3 : ∀ q : ExtW y.w, q.w.cell? ⟨b, o + na, none⟩ = some (.int .i64 u) := fun q => keep_cell (ext_keep (HY.out.trans' q.h)) hcu
 have rV3 : ∀ q : ExtW y.w, q.w.cell? ⟨b, o + nb, none⟩ = some (.int .i64 v) := fun q => keep_cell (ext_keep (HY.out.trans' q.h)) hcv
 have HJU3 : Hid (∀ q : ExtW y.w, Calls Tryz.prog 176 #[t.v, .int .i64 u] q.w fun e w'' => e = .returned (.int .i64 ju) ∧ Ext q.w w'') := Lib.hid (fun q => HJU.out q.w (HY.out.trans' q.h))
 have HJV3 : Hid (∀ q : ExtW y.w, Calls Tryz.prog 176 #[t.v, .int .i64 v] q.w fun e w'' => e = .returned (.int .i64 jv) ∧ Ext q.w w'') := Lib.hid (fun q => HJV.out q.w (HY.out.trans' q.h))
 clear gX hcu hcv
 refine region_ext (by kernel_rfl) (by kernel_rfl) ?_
 repeat (go_big_quiet_step (first | (go_at_call 176; with_reducible exact quiet_ext (HJU3.out _)) | (go_at_call 176; with_reducible exact quiet_ext (HJV3.out _))))
 refine wpQuiet_nil ?_
 rintro _ ⟨q, rfl⟩
 clear rT3 rU3 rV3
 obtain ⟨b1, k1⟩ : ∃ v, (ju == 1) = v := ⟨_, rfl⟩
 obtain ⟨b2, k2⟩ : ∃ v, (ju == 3) = v := ⟨_, rfl⟩
 obtain ⟨b3, k3⟩ : ∃ v, (jv == 2) = v := ⟨_, rfl⟩
 obtain ⟨b4, k4⟩ : ∃ v, (jv == 3) = v := ⟨_, rfl⟩
 have HF2 : Hid (V = ((b1 || b2) && (b3 || b4))) := Lib.hid (by rw [HF.out, k1, k2, k3, k4])
 clear HF
 cases b1 <;> cases b2 <;> cases b3 <;> cases b4
 all_goals
  go_wp2_with fail
  go_ret
  exact ⟨ret_bool HF2.out.symm, HY.out.trans' q.h⟩
set_option maxHeartbeats 1600000 in
set_option maxRecDepth 100000 in
theorem rjcheck_spec (t : TV) (T : Tbl) (l : List Int) (A : Option Addr) (n c : Nat) (w : World) (ht : TblS w t T) (h : IntS w ⟨A, n, c⟩ l) :
  Calls Tryz.prog 83 #[t.v, .slice A n c] w fun e w' => e = .returned (.tuple #[.int .i64 (jcheck T l).1, .int .i64 (jcheck T l).2]) ∧ Ext w w' := by
 obtain ⟨hn, _, _⟩ := h.len
 subst hn
 have HT := Lib.hid ht
 have HI := Lib.hid h
 have hba := tw_ext w t
 go_enter Tryz.func83, Tryz.ntmps83
 go_wp2_with fail
 refine (racc_spec t T l A _ c _ (HT.out.ext_ hba) (HI.out.ext hba)).mono ?_
 rintro e w1 ⟨rfl, hb1⟩
 have hb01 := hba.trans' hb1
 by_cases hz : ordErr T l = 0
 ·have HPV : Hid (∀ k, k < l.length → jpermB T l (k : Int) = jper T l k) := Lib.hid (fun k hk => by rw [jpermB, existsB_yes hz hk]; rfl)
  have HB : Hid (jcheck T l = jchk T l (l.length - 0) 0) := Lib.hid (by simp [jcheck, hz])
  rw [hz]
  clear hz
  go_wp2_with fail
  go_loopw [16] (fun j wr => ∃ (k : Nat), k ≤ l.length ∧ j = .int .i64 k ∧ Hid (jcheck T l = jchk T l (l.length - k) k) ∧ Ext (w.alloc (.cells #[.slice t.s0.a t.s0.n t.s0.c, .slice t.s1.a t.s1.n t.s1.c, .slice t.s2.a t.s2.n t.s2.c, .slice t.s3.a t.s3.n t.s3.c, .slice t.s4.a t.s4.n t.s4.c, .slice t.s5.a t.s5.n t.s5.c, .slice t.s6.a t.s6.n t.s6.c, .slice t.s7.a t.s7.n t.s7.c, .slice t.s8.a t.s8.n t.s8.c, .slice t.s9.a t.s9.n t.s9.c, .slice t.s10.a t.s10.n t.s10.c, .slice t.s11.a t.s11.n t.s11.c] 26)) wr) (fun j _ => l.length - (intOf j).toNat)
  case atStart => exact ⟨0, Nat.zero_le _, rfl, HB, hb1⟩
  case round =>
   obtain ⟨k, hk, rfl, HR, hbr⟩ := hrel
   have hb0 := hba.trans' hbr
   have rT : ∀ k : Nat, wr.cell? ⟨w.heap.size, k, none⟩ = t.v.cells[k]? := box_at hbr
   by_cases hlt : k < l.length
   ·have HS := hid_trans HR (show _ = if jper T l k = true then jchk T l (l.length - (k + 1)) (k + 1) else ((k : Int), (17 : Int)) from by
     rw [show l.length - k = (l.length - (k + 1)) + 1 from by omega]; rfl)
    have hpv := HPV.out k hlt
    clear HR HB
    cases hv : jper T l k
    ·have HF := hid_trans HS (show _ = ((k : Int), (17 : Int)) from by rw [hv]; simp)
     have HV := Lib.hid (hpv.trans hv)
     clear HS hv hpv
     go_wp2_with (go_at_call 133; refine (rjpermitted_spec t T l A _ c k _ (HT.out.ext_ hb0) (HI.out.ext hb0)).mono ?_; rintro e w2 ⟨rfl, hb2⟩; rw [HV.out])
     go_ret2
     exact ⟨by rw [HF.out]; rfl, hb0.trans' hb2⟩
    ·have HF := hid_trans HS (show _ = jchk T l (l.length - (k + 1)) (k + 1) from by rw [hv]; simp)
     have HV := Lib.hid (hpv.trans hv)
     clear HS hv hpv
     go_wp2_with (go_at_call 133; refine (rjpermitted_spec t T l A _ c k _ (HT.out.ext_ hb0) (HI.out.ext hb0)).mono ?_; rintro e w2 ⟨rfl, hb2⟩; rw [HV.out])
     go_roundw
     case rel => exact ⟨k + 1, by omega, by go_num, HF, hbr.trans' hb2⟩
     case measure => simp [intOf]; omega
   ·have HF := hid_trans HR (show _ = ((0 : Int), (0 : Int)) from by rw [show l.length - k = 0 from by omega]; rfl)
    clear HR HB
    go_wp2_with fail
    go_ret2
    exact ⟨by rw [HF.out]; rfl, hb0⟩
 ·have hzb : (ordErr T l == 0) = false := by rw [beq_eq_false_iff_ne]; exact hz
  have hzn : (ordErr T l != 0) = true := by rw [bne_iff_ne]; exact hz
  have HF : Hid (jcheck T l = (0, ordErr T l)) := Lib.hid (by simp [jcheck, hz])
  generalize ordErr T l = oe at *
  clear hz
  go_wp2_with fail
  go_ret2
  exact ⟨by rw [HF.out]; rfl, hb01⟩
end Go.Proofs.YtbdabjhankgcmaaGreatDoor
