/- Walks: table.Category and the reference's Category. (By program: ha_gen.py.) -/
import Derived.Test.YtbdabjhankgcmaaGreatDoorGb
import Derived.Test.YtbdabjhankgcmaaGreatDoorSk
import Derived.Test.YtbdabjhankgcmaaGreatDoorVj
namespace Go.Proofs.YtbdabjhankgcmaaGreatDoor
open Go.RowKit
theorem category1_spec (a b c d : Int) (w : World) : Calls Tryz.prog 128 #[.agg #[.int .i64 a, .int .i64 b, .int .i64 c, .int .i64 d]] w fun e w' => e = .returned (.int .i64 a) ∧ Ext w w' := by
 go_enter Tryz.func128, Tryz.ntmps128
 go_wp2
 go_ret
 exact ⟨rfl, (Ext.refl w).alloc_ _⟩
theorem category_spec (t : TV) (T : Tbl) (c : Int) (w : World) (ht : TblS w t T) (hs : Srt T) :
  Calls Tryz.prog 76 #[t.v, .int .i64 c] w fun e w' => e = .returned (.int .i64 (catT T c)) ∧ Ext w w' := by
 have hx := ht.cat.ext ((Ext.refl w).alloc_ (.cells t.v.cells 26))
 go_enter Tryz.func76, Tryz.ntmps76
 go_wp2_with (go_at_call 127; refine (pick_spec 128 fixCat T.cat _ _ _ _ _ hx hs.cat.1 hs.cat.2 Tryz.call128 (fun _ => category1_spec _ _ _ _ _)).mono ?_; rintro e w1 ⟨rfl, hb⟩)
 go_ret
 exact ⟨rfl, ((Ext.refl w).alloc_ _).trans' hb⟩
theorem shOk_cat {T : Tbl} (h : shapeB T = true) : ShOk T.cat := by
 simp only [shapeB, cols, shapeC, Bool.and_eq_true] at h
 exact ⟨h.1.1.1.1, h.1.1.1.2⟩
theorem cat_low {T : Tbl} {c : Int} (h1 : 0 ≤ c) (h2 : c ≤ 127) : catT T c = fixCat c := by
 have e1 : scalarB c = true := by simp only [scalarB, Bool.and_eq_true, Bool.or_eq_true, decide_eq_true_eq]; omega
 have e2 : resB c = true := by simp only [resB, Bool.or_eq_true, Bool.and_eq_true, decide_eq_true_eq]; exact .inl (.inl (.inl ⟨h1, h2⟩))
 rw [catT, pickP, if_neg (by rw [e1]; simp), if_pos e2]
theorem cat_syll {T : Tbl} {c : Int} (h : syllB c = true) : catT T c = 1 := by
 have h' := h
 simp only [syllB, Bool.and_eq_true, decide_eq_true_eq] at h'
 have e1 : scalarB c = true := by simp only [scalarB, Bool.and_eq_true, Bool.or_eq_true, decide_eq_true_eq]; omega
 have e2 : resB c = true := by rw [resB, h]; simp
 rw [catT, pickP, if_neg (by rw [e1]; simp), if_pos e2, fixCat, if_neg (by omega), if_neg (by omega), if_neg (by omega), if_neg (by omega), if_neg (by omega), if_neg (by omega), if_neg (by omega), if_neg (by omega), if_pos h]
theorem cat_jamo {T : Tbl} {c : Int} (hs : syllB c = false) (h : jamoB c = true) : catT T c = 1 := by
 have h' := h
 simp only [jamoB, Bool.or_eq_true, Bool.and_eq_true, decide_eq_true_eq] at h'
 have e1 : scalarB c = true := by simp only [scalarB, Bool.and_eq_true, Bool.or_eq_true, decide_eq_true_eq]; omega
 have e2 : resB c = true := by rw [resB, h]; simp
 rw [catT, pickP, if_neg (by rw [e1]; simp), if_pos e2, fixCat, if_neg (by omega), if_neg (by omega), if_neg (by omega), if_neg (by omega), if_neg (by omega), if_neg (by omega), if_neg (by omega), if_neg (by omega), if_neg (by rw [hs]; simp), if_pos h]
theorem cat_high {T : Tbl} (hsh : ShOk T.cat) {c : Int} (hc : c < 0 ∨ 127 < c) (hs : syllB c = false) (hj : jamoB c = false) : catT T c = spFind T.cat c := by
 rw [catT, pickP]
 by_cases h1 : scalarB c = false
 ·rw [if_pos h1, hsh.zero (.inr h1)]
 ·rw [if_neg h1]
  by_cases h2 : resB c = true
  ·rw [if_pos h2, hsh.zero (.inl h2)]
   exfalso
   have h3 : surB c = true := by
    rw [resB, hs, hj] at h2
    simp only [Bool.or_false, Bool.or_eq_true, Bool.and_eq_true, decide_eq_true_eq] at h2
    rcases h2 with h2 | h2
    ·omega
    ·exact h2
   simp only [surB, Bool.and_eq_true, decide_eq_true_eq] at h3
   simp only [scalarB, Bool.and_eq_false_iff, Bool.or_eq_false_iff, decide_eq_false_iff_not] at h1
   omega
  ·rw [if_neg h2]
set_option maxHeartbeats 6400000 in
set_option maxRecDepth 100000 in
theorem rcategory_spec (t : TV) (T : Tbl) (c : Int) (w : World) (ht : TblS w t T) (hsh : ShOk T.cat) :
  Calls Tryz.prog 43 #[t.v, .int .i64 c] w fun e w' => e = .returned (.int .i64 (catT T c)) ∧ Ext w w' := by
 have hx := ht.cat.ext ((Ext.refl w).alloc_ (.cells t.v.cells 26))
 have HX := Lib.hid hx
 have HSH := Lib.hid hsh
 have hba := tw_ext w t
 clear ht hx hsh
 by_cases r : 0 ≤ c ∧ c ≤ 31
 ·
  obtain ⟨r1, r2⟩ := r
  have d0 : decide (97 ≤ c) = false := by rw [decide_eq_false_iff_not]; omega
  have d1 : decide (c ≤ 122) = true := by rw [decide_eq_true_eq]; omega
  have d2 : decide (65 ≤ c) = false := by rw [decide_eq_false_iff_not]; omega
  have d3 : decide (c ≤ 90) = true := by rw [decide_eq_true_eq]; omega
  have d4 : decide (48 ≤ c) = false := by rw [decide_eq_false_iff_not]; omega
  have d5 : decide (c ≤ 57) = true := by rw [decide_eq_true_eq]; omega
  have d6 : decide (0 ≤ c) = true := by rw [decide_eq_true_eq]; omega
  have d7 : decide (c < 32) = true := by rw [decide_eq_true_eq]; omega
  have d8 : decide (32 < c) = false := by rw [decide_eq_false_iff_not]; omega
  have d9 : decide (c < 127) = true := by rw [decide_eq_true_eq]; omega
  have q1 : (c == 127) = false := by rw [beq_eq_false_iff_ne]; omega
  have q2 : (c == 32) = false := by rw [beq_eq_false_iff_ne]; omega
  have HG : Hid (catT T c = 8) := Lib.hid (by
   rw [cat_low (by omega) (by omega), fixCat]
   repeat' split
   all_goals first | rfl | (exfalso; omega))
  have HS : Hid (syllB c = false) := Lib.hid (by simp only [syllB, Bool.and_eq_false_iff, decide_eq_false_iff_not]; omega)
  have HJ : Hid (jamoB c = false) := Lib.hid (by simp only [jamoB, Bool.or_eq_false_iff, Bool.and_eq_false_iff, decide_eq_false_iff_not]; omega)
  go_enter Tryz.func43, Tryz.ntmps43
  go_wp2_with (first
   | (go_at_call 87; refine (rsyll_spec c _).mono ?_; rintro e w1 ⟨rfl, rfl⟩; rw [HS.out])
   | (go_at_call 88; refine (rjamo_spec c _).mono ?_; rintro e w1 ⟨rfl, rfl⟩; rw [HJ.out])
   | (go_at_call 89; refine (rvalue_spec _ _ _ T.cat _ _ HX.out).mono ?_; rintro e w1 ⟨rfl, hb1⟩))
  go_ret
  exact ⟨ret_int HG.out.symm, hba⟩
 by_cases r : 32 ≤ c ∧ c ≤ 32
 ·
  obtain ⟨r1, r2⟩ := r
  have d0 : decide (97 ≤ c) = false := by rw [decide_eq_false_iff_not]; omega
  have d1 : decide (c ≤ 122) = true := by rw [decide_eq_true_eq]; omega
  have d2 : decide (65 ≤ c) = false := by rw [decide_eq_false_iff_not]; omega
  have d3 : decide (c ≤ 90) = true := by rw [decide_eq_true_eq]; omega
  have d4 : decide (48 ≤ c) = false := by rw [decide_eq_false_iff_not]; omega
  have d5 : decide (c ≤ 57) = true := by rw [decide_eq_true_eq]; omega
  have d6 : decide (0 ≤ c) = true := by rw [decide_eq_true_eq]; omega
  have d7 : decide (c < 32) = false := by rw [decide_eq_false_iff_not]; omega
  have d8 : decide (32 < c) = false := by rw [decide_eq_false_iff_not]; omega
  have d9 : decide (c < 127) = true := by rw [decide_eq_true_eq]; omega
  have q1 : (c == 127) = false := by rw [beq_eq_false_iff_ne]; omega
  have q2 : (c == 32) = true := by rw [beq_iff_eq]; omega
  have HG : Hid (catT T c = 7) := Lib.hid (by
   rw [cat_low (by omega) (by omega), fixCat]
   repeat' split
   all_goals first | rfl | (exfalso; omega))
  have HS : Hid (syllB c = false) := Lib.hid (by simp only [syllB, Bool.and_eq_false_iff, decide_eq_false_iff_not]; omega)
  have HJ : Hid (jamoB c = false) := Lib.hid (by simp only [jamoB, Bool.or_eq_false_iff, Bool.and_eq_false_iff, decide_eq_false_iff_not]; omega)
  go_enter Tryz.func43, Tryz.ntmps43
  go_wp2_with (first
   | (go_at_call 87; refine (rsyll_spec c _).mono ?_; rintro e w1 ⟨rfl, rfl⟩; rw [HS.out])
   | (go_at_call 88; refine (rjamo_spec c _).mono ?_; rintro e w1 ⟨rfl, rfl⟩; rw [HJ.out])
   | (go_at_call 89; refine (rvalue_spec _ _ _ T.cat _ _ HX.out).mono ?_; rintro e w1 ⟨rfl, hb1⟩))
  go_ret
  exact ⟨ret_int HG.out.symm, hba⟩
 by_cases r : 33 ≤ c ∧ c ≤ 47
 ·
  obtain ⟨r1, r2⟩ := r
  have d0 : decide (97 ≤ c) = false := by rw [decide_eq_false_iff_not]; omega
  have d1 : decide (c ≤ 122) = true := by rw [decide_eq_true_eq]; omega
  have d2 : decide (65 ≤ c) = false := by rw [decide_eq_false_iff_not]; omega
  have d3 : decide (c ≤ 90) = true := by rw [decide_eq_true_eq]; omega
  have d4 : decide (48 ≤ c) = false := by rw [decide_eq_false_iff_not]; omega
  have d5 : decide (c ≤ 57) = true := by rw [decide_eq_true_eq]; omega
  have d6 : decide (0 ≤ c) = true := by rw [decide_eq_true_eq]; omega
  have d7 : decide (c < 32) = false := by rw [decide_eq_false_iff_not]; omega
  have d8 : decide (32 < c) = true := by rw [decide_eq_true_eq]; omega
  have d9 : decide (c < 127) = true := by rw [decide_eq_true_eq]; omega
  have q1 : (c == 127) = false := by rw [beq_eq_false_iff_ne]; omega
  have q2 : (c == 32) = false := by rw [beq_eq_false_iff_ne]; omega
  have HG : Hid (catT T c = 5) := Lib.hid (by
   rw [cat_low (by omega) (by omega), fixCat]
   repeat' split
   all_goals first | rfl | (exfalso; omega))
  have HS : Hid (syllB c = false) := Lib.hid (by simp only [syllB, Bool.and_eq_false_iff, decide_eq_false_iff_not]; omega)
  have HJ : Hid (jamoB c = false) := Lib.hid (by simp only [jamoB, Bool.or_eq_false_iff, Bool.and_eq_false_iff, decide_eq_false_iff_not]; omega)
  go_enter Tryz.func43, Tryz.ntmps43
  go_wp2_with (first
   | (go_at_call 87; refine (rsyll_spec c _).mono ?_; rintro e w1 ⟨rfl, rfl⟩; rw [HS.out])
   | (go_at_call 88; refine (rjamo_spec c _).mono ?_; rintro e w1 ⟨rfl, rfl⟩; rw [HJ.out])
   | (go_at_call 89; refine (rvalue_spec _ _ _ T.cat _ _ HX.out).mono ?_; rintro e w1 ⟨rfl, hb1⟩))
  go_ret
  exact ⟨ret_int HG.out.symm, hba⟩
 by_cases r : 48 ≤ c ∧ c ≤ 57
 ·
  obtain ⟨r1, r2⟩ := r
  have d0 : decide (97 ≤ c) = false := by rw [decide_eq_false_iff_not]; omega
  have d1 : decide (c ≤ 122) = true := by rw [decide_eq_true_eq]; omega
  have d2 : decide (65 ≤ c) = false := by rw [decide_eq_false_iff_not]; omega
  have d3 : decide (c ≤ 90) = true := by rw [decide_eq_true_eq]; omega
  have d4 : decide (48 ≤ c) = true := by rw [decide_eq_true_eq]; omega
  have d5 : decide (c ≤ 57) = true := by rw [decide_eq_true_eq]; omega
  have d6 : decide (0 ≤ c) = true := by rw [decide_eq_true_eq]; omega
  have d7 : decide (c < 32) = false := by rw [decide_eq_false_iff_not]; omega
  have d8 : decide (32 < c) = true := by rw [decide_eq_true_eq]; omega
  have d9 : decide (c < 127) = true := by rw [decide_eq_true_eq]; omega
  have q1 : (c == 127) = false := by rw [beq_eq_false_iff_ne]; omega
  have q2 : (c == 32) = false := by rw [beq_eq_false_iff_ne]; omega
  have HG : Hid (catT T c = 3) := Lib.hid (by
   rw [cat_low (by omega) (by omega), fixCat]
   repeat' split
   all_goals first | rfl | (exfalso; omega))
  have HS : Hid (syllB c = false) := Lib.hid (by simp only [syllB, Bool.and_eq_false_iff, decide_eq_false_iff_not]; omega)
  have HJ : Hid (jamoB c = false) := Lib.hid (by simp only [jamoB, Bool.or_eq_false_iff, Bool.and_eq_false_iff, decide_eq_false_iff_not]; omega)
  go_enter Tryz.func43, Tryz.ntmps43
  go_wp2_with (first
   | (go_at_call 87; refine (rsyll_spec c _).mono ?_; rintro e w1 ⟨rfl, rfl⟩; rw [HS.out])
   | (go_at_call 88; refine (rjamo_spec c _).mono ?_; rintro e w1 ⟨rfl, rfl⟩; rw [HJ.out])
   | (go_at_call 89; refine (rvalue_spec _ _ _ T.cat _ _ HX.out).mono ?_; rintro e w1 ⟨rfl, hb1⟩))
  go_ret
  exact ⟨ret_int HG.out.symm, hba⟩
 by_cases r : 58 ≤ c ∧ c ≤ 64
 ·
  obtain ⟨r1, r2⟩ := r
  have d0 : decide (97 ≤ c) = false := by rw [decide_eq_false_iff_not]; omega
  have d1 : decide (c ≤ 122) = true := by rw [decide_eq_true_eq]; omega
  have d2 : decide (65 ≤ c) = false := by rw [decide_eq_false_iff_not]; omega
  have d3 : decide (c ≤ 90) = true := by rw [decide_eq_true_eq]; omega
  have d4 : decide (48 ≤ c) = true := by rw [decide_eq_true_eq]; omega
  have d5 : decide (c ≤ 57) = false := by rw [decide_eq_false_iff_not]; omega
  have d6 : decide (0 ≤ c) = true := by rw [decide_eq_true_eq]; omega
  have d7 : decide (c < 32) = false := by rw [decide_eq_false_iff_not]; omega
  have d8 : decide (32 < c) = true := by rw [decide_eq_true_eq]; omega
  have d9 : decide (c < 127) = true := by rw [decide_eq_true_eq]; omega
  have q1 : (c == 127) = false := by rw [beq_eq_false_iff_ne]; omega
  have q2 : (c == 32) = false := by rw [beq_eq_false_iff_ne]; omega
  have HG : Hid (catT T c = 5) := Lib.hid (by
   rw [cat_low (by omega) (by omega), fixCat]
   repeat' split
   all_goals first | rfl | (exfalso; omega))
  have HS : Hid (syllB c = false) := Lib.hid (by simp only [syllB, Bool.and_eq_false_iff, decide_eq_false_iff_not]; omega)
  have HJ : Hid (jamoB c = false) := Lib.hid (by simp only [jamoB, Bool.or_eq_false_iff, Bool.and_eq_false_iff, decide_eq_false_iff_not]; omega)
  go_enter Tryz.func43, Tryz.ntmps43
  go_wp2_with (first
   | (go_at_call 87; refine (rsyll_spec c _).mono ?_; rintro e w1 ⟨rfl, rfl⟩; rw [HS.out])
   | (go_at_call 88; refine (rjamo_spec c _).mono ?_; rintro e w1 ⟨rfl, rfl⟩; rw [HJ.out])
   | (go_at_call 89; refine (rvalue_spec _ _ _ T.cat _ _ HX.out).mono ?_; rintro e w1 ⟨rfl, hb1⟩))
  go_ret
  exact ⟨ret_int HG.out.symm, hba⟩
 by_cases r : 65 ≤ c ∧ c ≤ 90
 ·
  obtain ⟨r1, r2⟩ := r
  have d0 : decide (97 ≤ c) = false := by rw [decide_eq_false_iff_not]; omega
  have d1 : decide (c ≤ 122) = true := by rw [decide_eq_true_eq]; omega
  have d2 : decide (65 ≤ c) = true := by rw [decide_eq_true_eq]; omega
  have d3 : decide (c ≤ 90) = true := by rw [decide_eq_true_eq]; omega
  have d4 : decide (48 ≤ c) = true := by rw [decide_eq_true_eq]; omega
  have d5 : decide (c ≤ 57) = false := by rw [decide_eq_false_iff_not]; omega
  have d6 : decide (0 ≤ c) = true := by rw [decide_eq_true_eq]; omega
  have d7 : decide (c < 32) = false := by rw [decide_eq_false_iff_not]; omega
  have d8 : decide (32 < c) = true := by rw [decide_eq_true_eq]; omega
  have d9 : decide (c < 127) = true := by rw [decide_eq_true_eq]; omega
  have q1 : (c == 127) = false := by rw [beq_eq_false_iff_ne]; omega
  have q2 : (c == 32) = false := by rw [beq_eq_false_iff_ne]; omega
  have HG : Hid (catT T c = 1) := Lib.hid (by
   rw [cat_low (by omega) (by omega), fixCat]
   repeat' split
   all_goals first | rfl | (exfalso; omega))
  have HS : Hid (syllB c = false) := Lib.hid (by simp only [syllB, Bool.and_eq_false_iff, decide_eq_false_iff_not]; omega)
  have HJ : Hid (jamoB c = false) := Lib.hid (by simp only [jamoB, Bool.or_eq_false_iff, Bool.and_eq_false_iff, decide_eq_false_iff_not]; omega)
  go_enter Tryz.func43, Tryz.ntmps43
  go_wp2_with (first
   | (go_at_call 87; refine (rsyll_spec c _).mono ?_; rintro e w1 ⟨rfl, rfl⟩; rw [HS.out])
   | (go_at_call 88; refine (rjamo_spec c _).mono ?_; rintro e w1 ⟨rfl, rfl⟩; rw [HJ.out])
   | (go_at_call 89; refine (rvalue_spec _ _ _ T.cat _ _ HX.out).mono ?_; rintro e w1 ⟨rfl, hb1⟩))
  go_ret
  exact ⟨ret_int HG.out.symm, hba⟩
 by_cases r : 91 ≤ c ∧ c ≤ 96
 ·
  obtain ⟨r1, r2⟩ := r
  have d0 : decide (97 ≤ c) = false := by rw [decide_eq_false_iff_not]; omega
  have d1 : decide (c ≤ 122) = true := by rw [decide_eq_true_eq]; omega
  have d2 : decide (65 ≤ c) = true := by rw [decide_eq_true_eq]; omega
  have d3 : decide (c ≤ 90) = false := by rw [decide_eq_false_iff_not]; omega
  have d4 : decide (48 ≤ c) = true := by rw [decide_eq_true_eq]; omega
  have d5 : decide (c ≤ 57) = false := by rw [decide_eq_false_iff_not]; omega
  have d6 : decide (0 ≤ c) = true := by rw [decide_eq_true_eq]; omega
  have d7 : decide (c < 32) = false := by rw [decide_eq_false_iff_not]; omega
  have d8 : decide (32 < c) = true := by rw [decide_eq_true_eq]; omega
  have d9 : decide (c < 127) = true := by rw [decide_eq_true_eq]; omega
  have q1 : (c == 127) = false := by rw [beq_eq_false_iff_ne]; omega
  have q2 : (c == 32) = false := by rw [beq_eq_false_iff_ne]; omega
  have HG : Hid (catT T c = 5) := Lib.hid (by
   rw [cat_low (by omega) (by omega), fixCat]
   repeat' split
   all_goals first | rfl | (exfalso; omega))
  have HS : Hid (syllB c = false) := Lib.hid (by simp only [syllB, Bool.and_eq_false_iff, decide_eq_false_iff_not]; omega)
  have HJ : Hid (jamoB c = false) := Lib.hid (by simp only [jamoB, Bool.or_eq_false_iff, Bool.and_eq_false_iff, decide_eq_false_iff_not]; omega)
  go_enter Tryz.func43, Tryz.ntmps43
  go_wp2_with (first
   | (go_at_call 87; refine (rsyll_spec c _).mono ?_; rintro e w1 ⟨rfl, rfl⟩; rw [HS.out])
   | (go_at_call 88; refine (rjamo_spec c _).mono ?_; rintro e w1 ⟨rfl, rfl⟩; rw [HJ.out])
   | (go_at_call 89; refine (rvalue_spec _ _ _ T.cat _ _ HX.out).mono ?_; rintro e w1 ⟨rfl, hb1⟩))
  go_ret
  exact ⟨ret_int HG.out.symm, hba⟩
 by_cases r : 97 ≤ c ∧ c ≤ 122
 ·
  obtain ⟨r1, r2⟩ := r
  have d0 : decide (97 ≤ c) = true := by rw [decide_eq_true_eq]; omega
  have d1 : decide (c ≤ 122) = true := by rw [decide_eq_true_eq]; omega
  have d2 : decide (65 ≤ c) = true := by rw [decide_eq_true_eq]; omega
  have d3 : decide (c ≤ 90) = false := by rw [decide_eq_false_iff_not]; omega
  have d4 : decide (48 ≤ c) = true := by rw [decide_eq_true_eq]; omega
  have d5 : decide (c ≤ 57) = false := by rw [decide_eq_false_iff_not]; omega
  have d6 : decide (0 ≤ c) = true := by rw [decide_eq_true_eq]; omega
  have d7 : decide (c < 32) = false := by rw [decide_eq_false_iff_not]; omega
  have d8 : decide (32 < c) = true := by rw [decide_eq_true_eq]; omega
  have d9 : decide (c < 127) = true := by rw [decide_eq_true_eq]; omega
  have q1 : (c == 127) = false := by rw [beq_eq_false_iff_ne]; omega
  have q2 : (c == 32) = false := by rw [beq_eq_false_iff_ne]; omega
  have HG : Hid (catT T c = 1) := Lib.hid (by
   rw [cat_low (by omega) (by omega), fixCat]
   repeat' split
   all_goals first | rfl | (exfalso; omega))
  have HS : Hid (syllB c = false) := Lib.hid (by simp only [syllB, Bool.and_eq_false_iff, decide_eq_false_iff_not]; omega)
  have HJ : Hid (jamoB c = false) := Lib.hid (by simp only [jamoB, Bool.or_eq_false_iff, Bool.and_eq_false_iff, decide_eq_false_iff_not]; omega)
  go_enter Tryz.func43, Tryz.ntmps43
  go_wp2_with (first
   | (go_at_call 87; refine (rsyll_spec c _).mono ?_; rintro e w1 ⟨rfl, rfl⟩; rw [HS.out])
   | (go_at_call 88; refine (rjamo_spec c _).mono ?_; rintro e w1 ⟨rfl, rfl⟩; rw [HJ.out])
   | (go_at_call 89; refine (rvalue_spec _ _ _ T.cat _ _ HX.out).mono ?_; rintro e w1 ⟨rfl, hb1⟩))
  go_ret
  exact ⟨ret_int HG.out.symm, hba⟩
 by_cases r : 123 ≤ c ∧ c ≤ 126
 ·
  obtain ⟨r1, r2⟩ := r
  have d0 : decide (97 ≤ c) = true := by rw [decide_eq_true_eq]; omega
  have d1 : decide (c ≤ 122) = false := by rw [decide_eq_false_iff_not]; omega
  have d2 : decide (65 ≤ c) = true := by rw [decide_eq_true_eq]; omega
  have d3 : decide (c ≤ 90) = false := by rw [decide_eq_false_iff_not]; omega
  have d4 : decide (48 ≤ c) = true := by rw [decide_eq_true_eq]; omega
  have d5 : decide (c ≤ 57) = false := by rw [decide_eq_false_iff_not]; omega
  have d6 : decide (0 ≤ c) = true := by rw [decide_eq_true_eq]; omega
  have d7 : decide (c < 32) = false := by rw [decide_eq_false_iff_not]; omega
  have d8 : decide (32 < c) = true := by rw [decide_eq_true_eq]; omega
  have d9 : decide (c < 127) = true := by rw [decide_eq_true_eq]; omega
  have q1 : (c == 127) = false := by rw [beq_eq_false_iff_ne]; omega
  have q2 : (c == 32) = false := by rw [beq_eq_false_iff_ne]; omega
  have HG : Hid (catT T c = 5) := Lib.hid (by
   rw [cat_low (by omega) (by omega), fixCat]
   repeat' split
   all_goals first | rfl | (exfalso; omega))
  have HS : Hid (syllB c = false) := Lib.hid (by simp only [syllB, Bool.and_eq_false_iff, decide_eq_false_iff_not]; omega)
  have HJ : Hid (jamoB c = false) := Lib.hid (by simp only [jamoB, Bool.or_eq_false_iff, Bool.and_eq_false_iff, decide_eq_false_iff_not]; omega)
  go_enter Tryz.func43, Tryz.ntmps43
  go_wp2_with (first
   | (go_at_call 87; refine (rsyll_spec c _).mono ?_; rintro e w1 ⟨rfl, rfl⟩; rw [HS.out])
   | (go_at_call 88; refine (rjamo_spec c _).mono ?_; rintro e w1 ⟨rfl, rfl⟩; rw [HJ.out])
   | (go_at_call 89; refine (rvalue_spec _ _ _ T.cat _ _ HX.out).mono ?_; rintro e w1 ⟨rfl, hb1⟩))
  go_ret
  exact ⟨ret_int HG.out.symm, hba⟩
 by_cases r : 127 ≤ c ∧ c ≤ 127
 ·
  obtain ⟨r1, r2⟩ := r
  have d0 : decide (97 ≤ c) = true := by rw [decide_eq_true_eq]; omega
  have d1 : decide (c ≤ 122) = false := by rw [decide_eq_false_iff_not]; omega
  have d2 : decide (65 ≤ c) = true := by rw [decide_eq_true_eq]; omega
  have d3 : decide (c ≤ 90) = false := by rw [decide_eq_false_iff_not]; omega
  have d4 : decide (48 ≤ c) = true := by rw [decide_eq_true_eq]; omega
  have d5 : decide (c ≤ 57) = false := by rw [decide_eq_false_iff_not]; omega
  have d6 : decide (0 ≤ c) = true := by rw [decide_eq_true_eq]; omega
  have d7 : decide (c < 32) = false := by rw [decide_eq_false_iff_not]; omega
  have d8 : decide (32 < c) = true := by rw [decide_eq_true_eq]; omega
  have d9 : decide (c < 127) = false := by rw [decide_eq_false_iff_not]; omega
  have q1 : (c == 127) = true := by rw [beq_iff_eq]; omega
  have q2 : (c == 32) = false := by rw [beq_eq_false_iff_ne]; omega
  have HG : Hid (catT T c = 8) := Lib.hid (by
   rw [cat_low (by omega) (by omega), fixCat]
   repeat' split
   all_goals first | rfl | (exfalso; omega))
  have HS : Hid (syllB c = false) := Lib.hid (by simp only [syllB, Bool.and_eq_false_iff, decide_eq_false_iff_not]; omega)
  have HJ : Hid (jamoB c = false) := Lib.hid (by simp only [jamoB, Bool.or_eq_false_iff, Bool.and_eq_false_iff, decide_eq_false_iff_not]; omega)
  go_enter Tryz.func43, Tryz.ntmps43
  go_wp2_with (first
   | (go_at_call 87; refine (rsyll_spec c _).mono ?_; rintro e w1 ⟨rfl, rfl⟩; rw [HS.out])
   | (go_at_call 88; refine (rjamo_spec c _).mono ?_; rintro e w1 ⟨rfl, rfl⟩; rw [HJ.out])
   | (go_at_call 89; refine (rvalue_spec _ _ _ T.cat _ _ HX.out).mono ?_; rintro e w1 ⟨rfl, hb1⟩))
  go_ret
  exact ⟨ret_int HG.out.symm, hba⟩
 have hr : c < 0 ∨ 127 < c := by omega
 cases hs : syllB c
 case true =>
  have HG : Hid (catT T c = 1) := Lib.hid (cat_syll hs)
  have HS := Lib.hid hs
  have HJ : Hid (jamoB c = jamoB c) := rfl
  simp only [syllB, Bool.and_eq_true, decide_eq_true_eq] at hs
  clear hr
  have d0 : decide (97 ≤ c) = true := by rw [decide_eq_true_eq]; omega
  have d1 : decide (c ≤ 122) = false := by rw [decide_eq_false_iff_not]; omega
  have d2 : decide (65 ≤ c) = true := by rw [decide_eq_true_eq]; omega
  have d3 : decide (c ≤ 90) = false := by rw [decide_eq_false_iff_not]; omega
  have d4 : decide (48 ≤ c) = true := by rw [decide_eq_true_eq]; omega
  have d5 : decide (c ≤ 57) = false := by rw [decide_eq_false_iff_not]; omega
  have d6 : decide (0 ≤ c) = true := by rw [decide_eq_true_eq]; omega
  have d7 : decide (c < 32) = false := by rw [decide_eq_false_iff_not]; omega
  have d8 : decide (32 < c) = true := by rw [decide_eq_true_eq]; omega
  have d9 : decide (c < 127) = false := by rw [decide_eq_false_iff_not]; omega
  have q1 : (c == 127) = false := by rw [beq_eq_false_iff_ne]; omega
  have q2 : (c == 32) = false := by rw [beq_eq_false_iff_ne]; omega
  go_enter Tryz.func43, Tryz.ntmps43
  go_wp2_with (first
   | (go_at_call 87; refine (rsyll_spec c _).mono ?_; rintro e w1 ⟨rfl, rfl⟩; rw [HS.out])
   | (go_at_call 88; refine (rjamo_spec c _).mono ?_; rintro e w1 ⟨rfl, rfl⟩; rw [HJ.out])
   | (go_at_call 89; refine (rvalue_spec _ _ _ T.cat _ _ HX.out).mono ?_; rintro e w1 ⟨rfl, hb1⟩))
  go_ret
  exact ⟨ret_int HG.out.symm, hba⟩
 cases hj : jamoB c
 case true =>
  have HG : Hid (catT T c = 1) := Lib.hid (cat_jamo hs hj)
  have HS := Lib.hid hs
  have HJ := Lib.hid hj
  simp only [jamoB, Bool.or_eq_true, Bool.and_eq_true, decide_eq_true_eq] at hj
  clear hr hs
  have d0 : decide (97 ≤ c) = true := by rw [decide_eq_true_eq]; omega
  have d1 : decide (c ≤ 122) = false := by rw [decide_eq_false_iff_not]; omega
  have d2 : decide (65 ≤ c) = true := by rw [decide_eq_true_eq]; omega
  have d3 : decide (c ≤ 90) = false := by rw [decide_eq_false_iff_not]; omega
  have d4 : decide (48 ≤ c) = true := by rw [decide_eq_true_eq]; omega
  have d5 : decide (c ≤ 57) = false := by rw [decide_eq_false_iff_not]; omega
  have d6 : decide (0 ≤ c) = true := by rw [decide_eq_true_eq]; omega
  have d7 : decide (c < 32) = false := by rw [decide_eq_false_iff_not]; omega
  have d8 : decide (32 < c) = true := by rw [decide_eq_true_eq]; omega
  have d9 : decide (c < 127) = false := by rw [decide_eq_false_iff_not]; omega
  have q1 : (c == 127) = false := by rw [beq_eq_false_iff_ne]; omega
  have q2 : (c == 32) = false := by rw [beq_eq_false_iff_ne]; omega
  clear hj
  go_enter Tryz.func43, Tryz.ntmps43
  go_wp2_with (first
   | (go_at_call 87; refine (rsyll_spec c _).mono ?_; rintro e w1 ⟨rfl, rfl⟩; rw [HS.out])
   | (go_at_call 88; refine (rjamo_spec c _).mono ?_; rintro e w1 ⟨rfl, rfl⟩; rw [HJ.out])
   | (go_at_call 89; refine (rvalue_spec _ _ _ T.cat _ _ HX.out).mono ?_; rintro e w1 ⟨rfl, hb1⟩))
  go_ret
  exact ⟨ret_int HG.out.symm, hba⟩
 have HG : Hid (catT T c = spFind T.cat c) := Lib.hid (cat_high HSH.out hr hs hj)
 have HS := Lib.hid hs
 have HJ := Lib.hid hj
 clear hs hj
 rcases hr with hr | hr
 ·
  have d0 : decide (97 ≤ c) = false := by rw [decide_eq_false_iff_not]; omega
  have d1 : decide (c ≤ 122) = true := by rw [decide_eq_true_eq]; omega
  have d2 : decide (65 ≤ c) = false := by rw [decide_eq_false_iff_not]; omega
  have d3 : decide (c ≤ 90) = true := by rw [decide_eq_true_eq]; omega
  have d4 : decide (48 ≤ c) = false := by rw [decide_eq_false_iff_not]; omega
  have d5 : decide (c ≤ 57) = true := by rw [decide_eq_true_eq]; omega
  have d6 : decide (0 ≤ c) = false := by rw [decide_eq_false_iff_not]; omega
  have d7 : decide (c < 32) = true := by rw [decide_eq_true_eq]; omega
  have d8 : decide (32 < c) = false := by rw [decide_eq_false_iff_not]; omega
  have d9 : decide (c < 127) = true := by rw [decide_eq_true_eq]; omega
  have q1 : (c == 127) = false := by rw [beq_eq_false_iff_ne]; omega
  have q2 : (c == 32) = false := by rw [beq_eq_false_iff_ne]; omega
  clear hr
  go_enter Tryz.func43, Tryz.ntmps43
  go_wp2_with (first
   | (go_at_call 87; refine (rsyll_spec c _).mono ?_; rintro e w1 ⟨rfl, rfl⟩; rw [HS.out])
   | (go_at_call 88; refine (rjamo_spec c _).mono ?_; rintro e w1 ⟨rfl, rfl⟩; rw [HJ.out])
   | (go_at_call 89; refine (rvalue_spec _ _ _ T.cat _ _ HX.out).mono ?_; rintro e w1 ⟨rfl, hb1⟩))
  go_ret
  exact ⟨ret_int HG.out.symm, hba.trans' hb1⟩
 ·
  have d0 : decide (97 ≤ c) = true := by rw [decide_eq_true_eq]; omega
  have d1 : decide (c ≤ 122) = false := by rw [decide_eq_false_iff_not]; omega
  have d2 : decide (65 ≤ c) = true := by rw [decide_eq_true_eq]; omega
  have d3 : decide (c ≤ 90) = false := by rw [decide_eq_false_iff_not]; omega
  have d4 : decide (48 ≤ c) = true := by rw [decide_eq_true_eq]; omega
  have d5 : decide (c ≤ 57) = false := by rw [decide_eq_false_iff_not]; omega
  have d6 : decide (0 ≤ c) = true := by rw [decide_eq_true_eq]; omega
  have d7 : decide (c < 32) = false := by rw [decide_eq_false_iff_not]; omega
  have d8 : decide (32 < c) = true := by rw [decide_eq_true_eq]; omega
  have d9 : decide (c < 127) = false := by rw [decide_eq_false_iff_not]; omega
  have q1 : (c == 127) = false := by rw [beq_eq_false_iff_ne]; omega
  have q2 : (c == 32) = false := by rw [beq_eq_false_iff_ne]; omega
  clear hr
  go_enter Tryz.func43, Tryz.ntmps43
  go_wp2_with (first
   | (go_at_call 87; refine (rsyll_spec c _).mono ?_; rintro e w1 ⟨rfl, rfl⟩; rw [HS.out])
   | (go_at_call 88; refine (rjamo_spec c _).mono ?_; rintro e w1 ⟨rfl, rfl⟩; rw [HJ.out])
   | (go_at_call 89; refine (rvalue_spec _ _ _ T.cat _ _ HX.out).mono ?_; rintro e w1 ⟨rfl, hb1⟩))
  go_ret
  exact ⟨ret_int HG.out.symm, hba.trans' hb1⟩
end Go.Proofs.YtbdabjhankgcmaaGreatDoor
