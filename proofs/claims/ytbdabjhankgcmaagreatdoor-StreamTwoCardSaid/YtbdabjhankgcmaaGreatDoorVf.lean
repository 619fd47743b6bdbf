/- Walks of the reference: Status, Script, rule 5. -/
import Derived.Test.YtbdabjhankgcmaaGreatDoorGc
import Derived.Test.YtbdabjhankgcmaaGreatDoorVa
import Derived.Test.YtbdabjhankgcmaaGreatDoorSk
import Derived.Test.YtbdabjhankgcmaaGreatDoorR
namespace Go.Proofs.YtbdabjhankgcmaaGreatDoor
open Go.RowKit
def refSta (T : Tbl) (c : Int) : Int := if (nameB c || c == 46 || syllB c) = true then 1 else if (decide (65 ≤ c) && decide (c ≤ 90)) = true then 3 else spFind T.sta c
def refScr (T : Tbl) (c : Int) : Int := if (decide (97 ≤ c) && decide (c ≤ 122) || decide (65 ≤ c) && decide (c ≤ 90)) = true then 3 else if (decide (0 ≤ c) && decide (c ≤ 127)) = true then 1 else if (syllB c || jamoB c) = true then 9 else spFind T.scr c
set_option maxHeartbeats 1600000 in
theorem refSta_eq {T : Tbl} (h : ShOk T.sta) (c : Int) : refSta T c = staT T c := by
 unfold staT pickP
 by_cases hsc : scalarB c = false
 ·rw [if_pos hsc]
  have h0 := h.zero (.inr hsc)
  simp only [scalarB, Bool.and_eq_false_iff, Bool.or_eq_false_iff, decide_eq_false_iff_not] at hsc
  rw [refSta, if_neg, if_neg, h0]
  ·simp only [Bool.and_eq_true, decide_eq_true_eq]; omega
  ·simp only [nameB, syllB, Bool.or_eq_true, Bool.and_eq_true, decide_eq_true_eq, beq_iff_eq]; omega
 ·rw [if_neg hsc]
  by_cases hr : resB c = true
  ·rw [if_pos hr]
   have h0 := h.zero (.inl hr)
   rw [refSta, h0]
   simp only [resB, surB, syllB, jamoB, Bool.or_eq_true, Bool.and_eq_true, decide_eq_true_eq] at hr
   simp only [Bool.not_eq_false, scalarB, Bool.and_eq_true, Bool.or_eq_true, decide_eq_true_eq] at hsc
   have hn : ∀ v, nameB c = v → (nameB c || c == 46 || syllB c) = (v || c == 46 || syllB c) := fun v h => by rw [h]
   by_cases hs : syllB c = true
   ·have hs' := hs
    simp only [syllB, Bool.and_eq_true, decide_eq_true_eq] at hs'
    rw [if_pos (by rw [hs]; simp), fixSta, if_neg (by omega), if_neg (by omega), if_neg (by omega), if_neg (by omega), if_neg (by omega), if_neg (by omega), if_neg (by omega), if_neg (by omega), if_pos hs]
   ·have hs2 : syllB c = false := by simpa using hs
    by_cases h7 : c ≤ 127
    ·have h0 : 0 ≤ c := by omega
     by_cases q1 : 97 ≤ c ∧ c ≤ 122
     ·rw [if_pos (by rw [show nameB c = true from by simp [nameB]; omega]; simp), fixSta, if_pos q1]
     by_cases q2 : 65 ≤ c ∧ c ≤ 90
     ·rw [if_neg (by rw [show nameB c = false from by simp [nameB]; omega, hs2, show (c == 46) = false from by rw [beq_eq_false_iff_ne]; omega]; simp), if_pos (by simp only [Bool.and_eq_true, decide_eq_true_eq]; exact q2), fixSta, if_neg q1, if_pos q2]
     by_cases q3 : 48 ≤ c ∧ c ≤ 57
     ·rw [if_pos (by rw [show nameB c = true from by simp [nameB]; omega]; simp), fixSta, if_neg q1, if_neg q2, if_pos q3]
     by_cases q4 : c = 45
     ·subst q4; rfl
     by_cases q5 : c = 46
     ·subst q5; rfl
     rw [if_neg (by rw [show nameB c = false from by simp [nameB]; omega, hs2, show (c == 46) = false from by rw [beq_eq_false_iff_ne]; omega]; simp), if_neg (by simp only [Bool.and_eq_true, decide_eq_true_eq]; exact q2), fixSta, if_neg q1, if_neg q2, if_neg q3, if_neg q4, if_neg q5]
     repeat' split
     all_goals first | rfl | (exfalso; first | exact hs (by assumption) | omega)
    ·rw [if_neg (by rw [show nameB c = false from by simp [nameB]; omega, hs2, show (c == 46) = false from by rw [beq_eq_false_iff_ne]; omega]; simp), if_neg (by simp only [Bool.and_eq_true, decide_eq_true_eq]; omega),
      fixSta, if_neg (by omega), if_neg (by omega), if_neg (by omega), if_neg (by omega), if_neg (by omega), if_neg (by omega), if_neg (by omega), if_neg (by omega), if_neg hs]
     split <;> rfl
  ·rw [if_neg hr]
   simp only [Bool.not_eq_true, resB, surB, syllB, jamoB, Bool.or_eq_false_iff, Bool.and_eq_false_iff, decide_eq_false_iff_not] at hr
   rw [refSta, if_neg, if_neg]
   ·simp only [Bool.and_eq_true, decide_eq_true_eq]; omega
   ·simp only [nameB, syllB, Bool.or_eq_true, Bool.and_eq_true, decide_eq_true_eq, beq_iff_eq]; omega
set_option maxHeartbeats 1600000 in
theorem refScr_eq {T : Tbl} (h : ShOk T.scr) (c : Int) : refScr T c = scrT T c := by
 unfold scrT pickP
 by_cases hsc : scalarB c = false
 ·rw [if_pos hsc]
  have h0 := h.zero (.inr hsc)
  simp only [scalarB, Bool.and_eq_false_iff, Bool.or_eq_false_iff, decide_eq_false_iff_not] at hsc
  rw [refScr, if_neg, if_neg, if_neg, h0]
  ·simp only [syllB, jamoB, Bool.or_eq_true, Bool.and_eq_true, decide_eq_true_eq]; omega
  ·simp only [Bool.and_eq_true, decide_eq_true_eq]; omega
  ·simp only [Bool.or_eq_true, Bool.and_eq_true, decide_eq_true_eq]; omega
 ·rw [if_neg hsc]
  by_cases hr : resB c = true
  ·rw [if_pos hr]
   have h0 := h.zero (.inl hr)
   rw [refScr, h0]
   simp only [resB, surB, syllB, jamoB, Bool.or_eq_true, Bool.and_eq_true, decide_eq_true_eq] at hr
   simp only [Bool.not_eq_false, scalarB, Bool.and_eq_true, Bool.or_eq_true, decide_eq_true_eq] at hsc
   by_cases h7 : c ≤ 127
   ·have h0 : 0 ≤ c := by
     rcases hr with ((⟨h1, _⟩ | ⟨h1, _⟩) | ⟨h1, _⟩) | ((⟨h1, _⟩ | ⟨h1, _⟩) | ⟨h1, _⟩) <;> omega
    by_cases q1 : 97 ≤ c ∧ c ≤ 122
    ·rw [if_pos (by simp only [Bool.or_eq_true, Bool.and_eq_true, decide_eq_true_eq]; exact .inl q1), fixScr, if_pos q1]
    by_cases q2 : 65 ≤ c ∧ c ≤ 90
    ·rw [if_pos (by simp only [Bool.or_eq_true, Bool.and_eq_true, decide_eq_true_eq]; exact .inr q2), fixScr, if_neg q1, if_pos q2]
    rw [if_neg (by simp only [Bool.or_eq_true, Bool.and_eq_true, decide_eq_true_eq]; omega), if_pos (by simp only [Bool.and_eq_true, decide_eq_true_eq]; omega), fixScr, if_neg q1, if_neg q2]
    repeat' split
    all_goals first | rfl | (exfalso; omega)
   ·have e3 : fixScr c = if syllB c = true then 9 else if jamoB c = true then 9 else 0 := by
     rw [fixScr, if_neg (by omega), if_neg (by omega), if_neg (by omega), if_neg (by omega), if_neg (by omega), if_neg (by omega), if_neg (by omega), if_neg (by omega)]
    rw [if_neg (by simp only [Bool.or_eq_true, Bool.and_eq_true, decide_eq_true_eq]; omega), if_neg (by simp only [Bool.and_eq_true, decide_eq_true_eq]; omega), e3]
    cases syllB c <;> cases jamoB c <;> rfl
  ·rw [if_neg hr]
   simp only [Bool.not_eq_true, resB, surB, syllB, jamoB, Bool.or_eq_false_iff, Bool.and_eq_false_iff, decide_eq_false_iff_not] at hr
   rw [refScr, if_neg, if_neg, if_neg]
   ·simp only [syllB, jamoB, Bool.or_eq_true, Bool.and_eq_true, decide_eq_true_eq]; omega
   ·simp only [Bool.and_eq_true, decide_eq_true_eq]; omega
   ·simp only [Bool.or_eq_true, Bool.and_eq_true, decide_eq_true_eq]; omega
set_option maxHeartbeats 1600000 in
set_option maxRecDepth 100000 in
theorem rstatus_spec (t : TV) (T : Tbl) (c : Int) (w : World) (ht : TblS w t T) (hsh : ShOk T.sta) :
  Calls Tryz.prog 82 #[t.v, .int .i64 c] w fun e w' => e = .returned (.int .i64 (staT T c)) ∧ Ext w w' := by
 have hx := ht.sta.ext ((Ext.refl w).alloc_ (.cells t.v.cells 26))
 have HX := Lib.hid hx
 have hba := tw_ext w t
 obtain ⟨b1, h1⟩ : ∃ b, nameB c = b := ⟨_, rfl⟩
 obtain ⟨b2, h2⟩ : ∃ b, (c == 46) = b := ⟨_, rfl⟩
 obtain ⟨b3, h3⟩ : ∃ b, syllB c = b := ⟨_, rfl⟩
 obtain ⟨b4, h4⟩ : ∃ b, decide (65 ≤ c) = b := ⟨_, rfl⟩
 obtain ⟨b5, h5⟩ : ∃ b, decide (c ≤ 90) = b := ⟨_, rfl⟩
 have HF : Hid (staT T c = if (b1 || b2 || b3) = true then 1 else if (b4 && b5) = true then 3 else spFind T.sta c) := Lib.hid (by rw [← refSta_eq hsh, refSta, h1, h2, h3, h4, h5])
 have H1 := Lib.hid h1
 have H3 := Lib.hid h3
 clear hx h1 h3 hsh ht
 by_cases hb : b1 = true ∨ b2 = true ∨ b3 = true
 ·have HG : Hid (staT T c = 1) := Lib.hid (by rw [HF.out, if_pos]; rcases hb with rfl | rfl | rfl <;> simp)
  clear HF
  cases b1 <;> cases b2 <;> cases b3
  case false.false.false => rcases hb with hb | hb | hb <;> cases hb
  all_goals
   clear hb
   go_enter Tryz.func82, Tryz.ntmps82
   go_wp2_with (first
    | (go_at_call 132; refine (rlatin_spec c _).mono ?_; rintro e w1 ⟨rfl, rfl⟩; rw [H1.out])
    | (go_at_call 87; refine (rsyll_spec c _).mono ?_; rintro e w1 ⟨rfl, rfl⟩; rw [H3.out]))
   go_ret
   exact ⟨ret_int HG.out.symm, hba⟩
 ·simp only [not_or, Bool.not_eq_true] at hb
  obtain ⟨rfl, rfl, rfl⟩ := hb
  by_cases hb : b4 = true ∧ b5 = true
  ·obtain ⟨rfl, rfl⟩ := hb
   have HG : Hid (staT T c = 3) := HF
   go_enter Tryz.func82, Tryz.ntmps82
   go_wp2_with (first
    | (go_at_call 132; refine (rlatin_spec c _).mono ?_; rintro e w1 ⟨rfl, rfl⟩; rw [H1.out])
    | (go_at_call 87; refine (rsyll_spec c _).mono ?_; rintro e w1 ⟨rfl, rfl⟩; rw [H3.out]))
   go_ret
   exact ⟨ret_int HG.out.symm, hba⟩
  ·have HG : Hid (staT T c = spFind T.sta c) := Lib.hid (by rw [HF.out, if_neg (by simp), if_neg (by simpa using hb)])
   clear HF
   cases b4 <;> cases b5
   case true.true => exact absurd ⟨rfl, rfl⟩ hb
   all_goals
    clear hb
    go_enter Tryz.func82, Tryz.ntmps82
    go_wp2_with (first
     | (go_at_call 132; refine (rlatin_spec c _).mono ?_; rintro e w1 ⟨rfl, rfl⟩; rw [H1.out])
     | (go_at_call 87; refine (rsyll_spec c _).mono ?_; rintro e w1 ⟨rfl, rfl⟩; rw [H3.out])
     | (go_at_call 89; refine (rvalue_spec _ _ _ T.sta _ _ HX.out).mono ?_; rintro e w1 ⟨rfl, hb1⟩))
    go_ret
    exact ⟨ret_int HG.out.symm, hba.trans' hb1⟩
set_option maxHeartbeats 1600000 in
set_option maxRecDepth 100000 in
theorem rscript_spec (t : TV) (T : Tbl) (c : Int) (w : World) (ht : TblS w t T) (hsh : ShOk T.scr) :
  Calls Tryz.prog 177 #[t.v, .int .i64 c] w fun e w' => e = .returned (.int .i64 (scrT T c)) ∧ Ext w w' := by
 have hx := ht.scr.ext ((Ext.refl w).alloc_ (.cells t.v.cells 26))
 have HX := Lib.hid hx
 have hba := tw_ext w t
 have HS : Hid (syllB c = syllB c) := rfl
 by_cases hl : 97 ≤ c ∧ c ≤ 122 ∨ 65 ≤ c ∧ c ≤ 90
 ·have HG : Hid (scrT T c = 3) := Lib.hid (by rw [← refScr_eq hsh, refScr, if_pos]; simp only [Bool.or_eq_true, Bool.and_eq_true, decide_eq_true_eq]; exact hl)
  clear ht hsh hx
  rcases hl with ⟨h1, h2⟩ | ⟨h1, h2⟩
  ·have d1 : decide (97 ≤ c) = true := by rw [decide_eq_true_eq]; exact h1
   have d2 : decide (c ≤ 122) = true := by rw [decide_eq_true_eq]; exact h2
   go_enter Tryz.func177, Tryz.ntmps177
   go_wp2_with fail
   go_ret
   exact ⟨ret_int HG.out.symm, hba⟩
  ·have d1 : decide (97 ≤ c) = false := by rw [decide_eq_false_iff_not]; omega
   have d2 : decide (65 ≤ c) = true := by rw [decide_eq_true_eq]; exact h1
   have d3 : decide (c ≤ 90) = true := by rw [decide_eq_true_eq]; exact h2
   go_enter Tryz.func177, Tryz.ntmps177
   go_wp2_with fail
   go_ret
   exact ⟨ret_int HG.out.symm, hba⟩
 ·have hn : Hid (¬((decide (97 ≤ c) && decide (c ≤ 122) || decide (65 ≤ c) && decide (c ≤ 90)) = true)) := Lib.hid (by simp only [Bool.or_eq_true, Bool.and_eq_true, decide_eq_true_eq]; exact hl)
  obtain ⟨d1, e1⟩ : ∃ b, decide (97 ≤ c) = b := ⟨_, rfl⟩
  obtain ⟨d2, e2⟩ : ∃ b, decide (c ≤ 122) = b := ⟨_, rfl⟩
  obtain ⟨d3, e3⟩ : ∃ b, decide (65 ≤ c) = b := ⟨_, rfl⟩
  obtain ⟨d4, e4⟩ : ∃ b, decide (c ≤ 90) = b := ⟨_, rfl⟩
  obtain ⟨d5, e5⟩ : ∃ b, decide (0 ≤ c) = b := ⟨_, rfl⟩
  obtain ⟨d6, e6⟩ : ∃ b, decide (c ≤ 127) = b := ⟨_, rfl⟩
  obtain ⟨s1, h1⟩ : ∃ b, syllB c = b := ⟨_, rfl⟩
  obtain ⟨s2, h2⟩ : ∃ b, jamoB c = b := ⟨_, rfl⟩
  have HF : Hid (scrT T c = if (d5 && d6) = true then 1 else if (s1 || s2) = true then 9 else spFind T.scr c) := Lib.hid (by rw [← refScr_eq hsh, refScr, if_neg hn.out, e5, e6, h1, h2])
  have hcls : (d1 = false ∧ d2 = true ∧ d3 = false ∧ d4 = true ∧ d5 = false ∧ d6 = true) ∨ (d1 = false ∧ d2 = true ∧ d3 = false ∧ d4 = true ∧ d5 = true ∧ d6 = true) ∨ (d1 = false ∧ d2 = true ∧ d3 = true ∧ d4 = false ∧ d5 = true ∧ d6 = true) ∨ (d1 = true ∧ d2 = false ∧ d3 = true ∧ d4 = false ∧ d5 = true ∧ d6 = true) ∨ (d1 = true ∧ d2 = false ∧ d3 = true ∧ d4 = false ∧ d5 = true ∧ d6 = false) := by
   subst e1 e2 e3 e4 e5 e6
   simp only [decide_eq_true_eq, decide_eq_false_iff_not]
   omega
  have H1 := Lib.hid h1
  have H2 := Lib.hid h2
  clear hn hl ht hsh hx h1 h2
  rcases hcls with ⟨rfl, rfl, rfl, rfl, rfl, rfl⟩ | ⟨rfl, rfl, rfl, rfl, rfl, rfl⟩ | ⟨rfl, rfl, rfl, rfl, rfl, rfl⟩ | ⟨rfl, rfl, rfl, rfl, rfl, rfl⟩ | ⟨rfl, rfl, rfl, rfl, rfl, rfl⟩
  case inr.inl | inr.inr.inl | inr.inr.inr.inl =>
   have HG : Hid (scrT T c = 1) := HF
   go_enter Tryz.func177, Tryz.ntmps177
   go_wp2_with fail
   go_ret
   exact ⟨ret_int HG.out.symm, hba⟩
  all_goals
   have HF2 : Hid (scrT T c = if (s1 || s2) = true then 9 else spFind T.scr c) := HF
   clear HF
   cases s1 <;> cases s2
   case false.false =>
    have HG : Hid (scrT T c = spFind T.scr c) := HF2
    go_enter Tryz.func177, Tryz.ntmps177
    go_wp2_with (first
     | (go_at_call 87; refine (rsyll_spec c _).mono ?_; rintro e w1 ⟨rfl, rfl⟩; rw [H1.out])
     | (go_at_call 88; refine (rjamo_spec c _).mono ?_; rintro e w1 ⟨rfl, rfl⟩; rw [H2.out])
     | (go_at_call 89; refine (rvalue_spec _ _ _ T.scr _ _ HX.out).mono ?_; rintro e w1 ⟨rfl, hb1⟩))
    go_ret
    exact ⟨ret_int HG.out.symm, hba.trans' hb1⟩
   all_goals
    have HG : Hid (scrT T c = 9) := HF2
    go_enter Tryz.func177, Tryz.ntmps177
    go_wp2_with (first
     | (go_at_call 87; refine (rsyll_spec c _).mono ?_; rintro e w1 ⟨rfl, rfl⟩; rw [H1.out])
     | (go_at_call 88; refine (rjamo_spec c _).mono ?_; rintro e w1 ⟨rfl, rfl⟩; rw [H2.out]))
    go_ret
    exact ⟨ret_int HG.out.symm, hba⟩
set_option maxHeartbeats 1600000 in
set_option maxRecDepth 100000 in
theorem rmapped_spec (t : TV) (T : Tbl) (w : World) (ht : TblS w t T) (hsh : ShOk T.sta) (hbd : ∀ s ∈ T.sta, 0 ≤ s.lo ∧ s.lo ≤ s.hi ∧ s.hi ≤ 1114111) :
  Calls Tryz.prog 95 #[t.v] w fun e w' => e = .returned (.bool (mappedB T)) ∧ Ext w w' := by
 have HB : Hid (mappedB T = (decide (sumMapped 0 T.sta = (T.mps.length : Int)) && mappedL T T.mps)) := rfl
 have hba : Ext w (w.alloc (.cells t.v.cells 26)) := (Ext.refl _).alloc_ _
 have hle1 : T.sta.length ≤ 256 := hsh.len
 have HBD : Hid (∀ s ∈ T.sta, 0 ≤ s.lo ∧ s.lo ≤ s.hi ∧ s.hi ≤ 1114111) := hbd
 have HSH := Lib.hid hsh
 clear hbd hsh
 obtain ⟨s0, s1, s2, s3, s4, ⟨A5, n5, c5⟩, s6, s7, ⟨A8, n8, c8⟩, s9, s10, s11⟩ := t
 have hst : SpanS w ⟨A5, n5, c5⟩ T.sta := ht.sta
 have hmp : MapS w ⟨A8, n8, c8⟩ T.mps := ht.mps
 obtain ⟨L1, hL1⟩ : ∃ l, l = T.sta := ⟨_, rfl⟩
 obtain ⟨L2, hL2⟩ : ∃ l, l = T.mps := ⟨_, rfl⟩
 rw [← hL1] at HB hle1 HBD hst
 rw [← hL2] at HB hmp
 clear hL1 hL2
 obtain ⟨hn1, _, _⟩ := hst.len
 obtain ⟨hn2, _, _⟩ := hmp.len
 subst hn1 hn2
 go_enter Tryz.func95, Tryz.ntmps95
 go_wp2_with fail
 go_loopw [3, 14] (fun s i wr => ∃ (k : Nat) (n : Int), k ≤ L1.length ∧ i = .int .i64 k ∧ s = .int .i64 n ∧ 0 ≤ n ∧ n ≤ 1114112 * k ∧ Hid (sumMapped 0 L1 = sumMapped n (L1.drop k)) ∧
  Ext (w.alloc (.cells #[.slice s0.a s0.n s0.c, .slice s1.a s1.n s1.c, .slice s2.a s2.n s2.c, .slice s3.a s3.n s3.c, .slice s4.a s4.n s4.c, .slice A5 L1.length c5, .slice s6.a s6.n s6.c, .slice s7.a s7.n s7.c, .slice A8 L2.length c8, .slice s9.a s9.n s9.c, .slice s10.a s10.n s10.c, .slice s11.a s11.n s11.c] 26)) wr) (fun _ i _ => L1.length - (intOf i).toNat)
 case atStart => exact ⟨0, 0, Nat.zero_le _, rfl, rfl, by omega, by omega, rfl, Ext.refl _⟩
 case round =>
  obtain ⟨k, n, hk, rfl, rfl, hn0, hn1, HR, hbr⟩ := hrel
  have hb0r : Ext w wr := hba.trans' hbr
  by_cases hlt : k < L1.length
  ·obtain ⟨b, o, ha, h0, h1, h2⟩ := (hst.ext hb0r).at_ hlt
   subst ha
   have HD : Hid (L1.drop k = L1[k] :: L1.drop (k + 1)) := drop_at L1 k hlt
   obtain ⟨q0, q1, q2⟩ := HBD.out L1[k] (by simp)
   generalize L1[k] = x at *
   obtain ⟨xl, xh, xv⟩ := x
   simp only at h0 h1 h2 q0 q1 q2
   have hx3 : ∀ v, (if xv = 3 then n + (xh - xl + 1) else n) = v → Hid (sumMapped 0 L1 = sumMapped v (L1.drop (k + 1))) := fun v hv => hid_trans HR (by rw [HD.out, sumMapped_step, ← hv])
   have HX3 := Lib.hid hx3
   clear hx3 HR HD
   by_cases hv : xv = 3
   ·have HF := HX3.out (n + (xh - xl + 1)) (if_pos hv)
    have hv3 : (xv == 3) = true := by rw [beq_iff_eq]; exact hv
    clear hv HX3
    go_wp2
    go_roundw
    case rel => exact ⟨k + 1, _, by omega, by go_num, rfl, by omega, by omega, HF, hbr.alloc_ _⟩
    case measure => simp [intOf]; omega
   ·have HF := HX3.out n (if_neg hv)
    have hv3 : (xv == 3) = false := by rw [beq_eq_false_iff_ne]; exact hv
    clear hv HX3
    go_wp2
    go_roundw
    case rel => exact ⟨k + 1, _, by omega, by go_num, rfl, by omega, by omega, HF, hbr.alloc_ _⟩
    case measure => simp [intOf]; omega
  ·have HN := hid_trans HR (show _ = n from by rw [drop_all L1 k (by omega)]; rfl)
   have hbx := box_at hbr
   have hzx : w.heap.size < wr.heap.size := by have := hbr.b.size; simp at this; omega
   clear HR
   by_cases hnm : n = (L2.length : Int)
   ·have HR2 : Hid (mappedB T = mappedL T L2) := Lib.hid (by rw [HB.out, HN.out, hnm]; simp)
    have hnb : (n != (L2.length : Int)) = false := by rw [bne_eq_false_iff_eq]; exact hnm
    clear hnm HN HB
    obtain ⟨wo, rfl⟩ : ∃ wo : World, wo = wr := ⟨_, rfl⟩
    go_wp2_with fail
    go_loopw [38] (fun i wi => ∃ (k : Nat), k ≤ L2.length ∧ i = .int .i64 k ∧ Hid (mappedB T = mappedL T (L2.drop k)) ∧ Ext wo wi) (fun i _ => L2.length - (intOf i).toNat)
    case atStart => exact ⟨0, Nat.zero_le _, rfl, HR2, Ext.refl _⟩
    case round =>
     obtain ⟨j, hj, rfl, HI, hbi⟩ := hrel
     have hb0i := hb0r.trans' hbi
     by_cases hltj : j < L2.length
     ·obtain ⟨bb, oo, ya, yn, yc, ha, g0, g1, g2⟩ := (hmp.ext hb0i).at_ hltj
      subst ha
      have HJ : Hid (L2.drop j = L2[j] :: L2.drop (j + 1)) := drop_at L2 j hltj
      generalize L2[j] = y at *
      obtain ⟨yl, yt⟩ := y
      simp only at g0 g1 g2
      obtain ⟨hyn, _, _⟩ := g2.len
      subst hyn
      have HS : ∀ v, (decide (staT T yl = 3) && mappedTo T yt) = v → Hid (mappedB T = (v && mappedL T (L2.drop (j + 1)))) := fun v hv => Lib.hid (by rw [HI.out, HJ.out, ← hv]; rfl)
      have HS' := Lib.hid HS
      have hbx2 := box_at (hbr.trans' hbi)
      have hzx2 : w.heap.size < wr.heap.size := by have := hbi.b.size; omega
      have hba2 : Ext wr (wr.alloc (.cells #[.int .i64 yl, .slice ya yt.length yc] 74)) := (Ext.refl _).alloc_ _
      have hb0i2 := hb0i.trans' hba2
      have ht2 := Lib.hid (ht.ext_ hb0i2)
      clear hbx HI HJ HR2 HS
      go_wp2_with fail
      refine (rstatus_spec _ T yl _ ht2.out HSH.out).mono ?_
      rintro e w3 ⟨rfl, hb3⟩
      cases hsv : (staT T yl != 3)
      ·have hsv' : decide (staT T yl = 3) = true := by rw [← nbne, hsv]; rfl
       have HS2 : Hid (∀ v, mappedTo T yt = v → Hid (mappedB T = (v && mappedL T (L2.drop (j + 1))))) := fun v hv => HS'.out v (by rw [hsv', hv]; rfl)
       have g23 := g2.ext (hba2.trans' hb3)
       have gbx := box_at hb3
       have hzb : wr.heap.size < w3.heap.size := by have := hb3.b.size; simp at this; omega
       have hbo3 := hbi.trans' (hba2.trans' hb3)
       clear hsv' HS'
       go_wp2_with fail
       go_loopw [50] (fun i wi => ∃ (q : Nat), q ≤ yt.length ∧ i = .int .i64 q ∧ Hid (mappedTo T yt = mappedTo T (yt.drop q)) ∧ Ext w3 wi) (fun i _ => yt.length - (intOf i).toNat)
       case atStart => exact ⟨0, Nat.zero_le _, rfl, rfl, Ext.refl _⟩
       case round =>
        obtain ⟨q, hq, rfl, HQ, hbq⟩ := hrel
        have hboq := hbo3.trans' hbq
        have hb0q := hb0r.trans' hboq
        by_cases hltq : q < yt.length
        ·obtain ⟨b5, o5, ha, g5⟩ := (g23.ext hbq).at_ hltq
         subst ha
         have HJ5 : Hid (yt.drop q = yt[q] :: yt.drop (q + 1)) := drop_at yt q hltq
         generalize yt[q] = z at *
         have hbx3 := box_at (hbr.trans' hboq)
         have hzx3 : w.heap.size < wr.heap.size := by have := hboq.b.size; omega
         have htq := Lib.hid (ht.ext_ hb0q)
         clear hbx2 gbx
         go_wp2_with fail
         refine (rstatus_spec _ T z _ htq.out HSH.out).mono ?_
         rintro e w5 ⟨rfl, hb5⟩
         have HQ2 : ∀ v, (decide (staT T z = 1) || decide (staT T z = 4)) = v → Hid (mappedTo T yt = (v && mappedTo T (yt.drop (q + 1)))) := fun v hv => hid_trans HQ (by rw [HJ5.out, ← hv]; rfl)
         generalize staT T z = sz at *
         by_cases hz : sz = 1 ∨ sz = 4
         ·have HF := HQ2 true (by simp; exact hz)
          have HF2 := hid_trans HF (show _ = mappedTo T (yt.drop (q + 1)) from by simp)
          have hz' := Lib.hid hz
          clear HQ HJ5 HQ2 HF hz
          rcases hz'.out with rfl | rfl
          ·go_wp2
           go_roundw
           case rel => exact ⟨q + 1, by omega, by go_num, HF2, hbq.trans' hb5⟩
           case measure => simp [intOf]; omega
          ·go_wp2
           go_roundw
           case rel => exact ⟨q + 1, by omega, by go_num, HF2, hbq.trans' hb5⟩
           case measure => simp [intOf]; omega
         ·have HF := HQ2 false (by simp; omega)
          have HF2 := HS2.out false (by rw [HF.out]; rfl)
          have hz1 : (sz != 1) = true := by rw [bne_iff_ne]; omega
          have hz2 : (sz != 4) = true := by rw [bne_iff_ne]; omega
          clear HQ HJ5 HQ2 HF hz HS2
          go_wp2
          go_ret
          exact ⟨ret_bool (by rw [HF2.out]; rfl), hb0q.trans' hb5⟩
        ·have HF := HS2.out true (by rw [HQ.out, drop_all yt q (by omega)]; rfl)
         clear HS2 HQ
         go_wp2
         go_roundw
         case rel => exact ⟨j + 1, by omega, by go_num, HF, hboq⟩
         case measure => simp [intOf]; omega
      ·have hsv' : decide (staT T yl = 3) = false := by rw [← nbne, hsv]; rfl
       have HF := HS'.out false (by rw [hsv']; rfl)
       clear hsv' HS'
       go_wp2
       go_ret
       exact ⟨ret_bool (by rw [HF.out]; rfl), hb0i2.trans' hb3⟩
     ·have HF := hid_trans HI (show _ = true from by rw [drop_all L2 j (by omega)]; simp [mappedL])
      clear HI HR2
      go_wp2
      go_ret
      exact ⟨ret_bool HF.out.symm, hb0i⟩
   ·have HR2 : Hid (mappedB T = false) := Lib.hid (by rw [HB.out, HN.out]; simp [hnm])
    have hnb : (n != (L2.length : Int)) = true := by rw [bne_iff_ne]; exact hnm
    clear hnm HN HB
    go_wp2
    go_ret
    exact ⟨ret_bool HR2.out.symm, hb0r⟩
end Go.Proofs.YtbdabjhankgcmaaGreatDoor
