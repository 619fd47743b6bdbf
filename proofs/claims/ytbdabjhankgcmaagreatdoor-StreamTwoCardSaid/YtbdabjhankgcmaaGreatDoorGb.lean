/- Walks: the small functions of utf and table, and ranges.Check. Walks: sort.Search over any predicate; look-ups in spans, mappings and numbers. Walks: the properties of code points by table. -/
import Derived.Test.YtbdabjhankgcmaaGreatDoorGa
import Derived.Outline
namespace Go.Proofs.YtbdabjhankgcmaaGreatDoor
open Go.RowKit
theorem scalar_spec (c : Int) (w : World) : Calls Tryz.prog 123 #[.int .i64 c] w fun e w' => e = .returned (.bool (scalarB c)) ∧ w = w' := by
 go_enter Tryz.func123, Tryz.ntmps123
 go_wp2
 all_goals (go_ret; refine ⟨ret_bool ?_, rfl⟩; (first | (simp [scalarB, *]; done) | (rw [Bool.eq_iff_iff]; simp [scalarB]; omega) | (simp [scalarB, *]; omega)))
theorem length_spec (c : Int) (w : World) : Calls Tryz.prog 71 #[.int .i64 c] w fun e w' => e = .returned (.int .i64 (utfLen c)) ∧ w = w' := by
 cases hs : scalarB c
 ·have H := Lib.hid hs
  clear hs
  go_enter Tryz.func71, Tryz.ntmps71
  go_wp2_with (go_at_call 123; refine (scalar_spec _ _).mono ?_; rintro e w' ⟨rfl, rfl⟩; rw [H.out])
  all_goals (go_ret; refine ⟨ret_int ?_, rfl⟩; simp [utfLen, H.out])
 ·have H := Lib.hid hs
  clear hs
  go_enter Tryz.func71, Tryz.ntmps71
  go_wp2_with (go_at_call 123; refine (scalar_spec _ _).mono ?_; rintro e w' ⟨rfl, rfl⟩; rw [H.out])
  all_goals (go_ret; refine ⟨ret_int ?_, rfl⟩; simp [utfLen, H.out]; try omega)
theorem syllable_spec (c : Int) (w : World) : Calls Tryz.prog 157 #[.int .i64 c] w fun e w' => e = .returned (.bool (syllB c)) ∧ w = w' := by
 go_enter Tryz.func157, Tryz.ntmps157
 go_wp2
 all_goals (go_ret; refine ⟨ret_bool ?_, rfl⟩; (first | (simp [syllB, *]; done) | (rw [Bool.eq_iff_iff]; simp [syllB]; omega) | (simp [syllB, *]; omega)))
theorem jamo_spec (c : Int) (w : World) : Calls Tryz.prog 158 #[.int .i64 c] w fun e w' => e = .returned (.bool (jamoB c)) ∧ w = w' := by
 go_enter Tryz.func158, Tryz.ntmps158
 go_wp2
 all_goals (go_ret; refine ⟨ret_bool ?_, rfl⟩; (first | (simp [jamoB, *]; done) | (rw [Bool.eq_iff_iff]; simp [jamoB]; omega) | (simp [jamoB, *]; omega)))
theorem surrogate_spec (c : Int) (w : World) : Calls Tryz.prog 187 #[.int .i64 c] w fun e w' => e = .returned (.bool (surB c)) ∧ w = w' := by
 go_enter Tryz.func187, Tryz.ntmps187
 go_wp2
 all_goals (go_ret; refine ⟨ret_bool ?_, rfl⟩; (first | (simp [surB, *]; done) | (rw [Bool.eq_iff_iff]; simp [surB]; omega) | (simp [surB, *]; omega)))
theorem name_spec (c : Int) (w : World) : Calls Tryz.prog 155 #[.int .i64 c] w fun e w' => e = .returned (.bool (nameB c)) ∧ w = w' := by
 go_enter Tryz.func155, Tryz.ntmps155
 go_wp2
 all_goals (go_ret; refine ⟨ret_bool ?_, rfl⟩; (first | (simp [nameB, *]; done) | (rw [Bool.eq_iff_iff]; simp [nameB]; omega) | (simp [nameB, *]; omega)))
theorem reserved_spec (c : Int) (w : World) : Calls Tryz.prog 165 #[.int .i64 c] w fun e w' => e = .returned (.bool (resB c)) ∧ w = w' := by
 have H : Hid (resB c = (decide (0 ≤ c) && decide (c ≤ 127) || surB c || syllB c || jamoB c)) := rfl
 go_enter Tryz.func165, Tryz.ntmps165
 go_wp2_with (first
  | (go_at_call 187; refine (surrogate_spec _ _).mono ?_; rintro e w' ⟨rfl, rfl⟩; cases h1 : surB c)
  | (go_at_call 157; refine (syllable_spec _ _).mono ?_; rintro e w' ⟨rfl, rfl⟩; cases h2 : syllB c)
  | (go_at_call 158; refine (jamo_spec _ _).mono ?_; rintro e w' ⟨rfl, rfl⟩; cases h3 : jamoB c))
 all_goals (go_ret; refine ⟨ret_bool ?_, rfl⟩; rw [H.out]; (first | (simp [*]; done) | (simp [*]; omega)))
theorem point_spec (last c : Int) (w : World) : Calls Tryz.prog 154 #[.int .i64 last, .int .i64 c] w fun e w' => e = .returned (.bool (pointB last c)) ∧ w = w' := by
 have H : Hid (pointB last c = (decide (last < c) && decide (c ≤ 1114111) && !resB c)) := rfl
 go_enter Tryz.func154, Tryz.ntmps154
 go_wp2_with (go_at_call 165; refine (reserved_spec _ _).mono ?_; rintro e w' ⟨rfl, rfl⟩; cases h1 : resB c)
 all_goals (go_ret; refine ⟨ret_bool ?_, rfl⟩; rw [H.out]; (first | (simp [*]; done) | (simp [*]; omega)))
set_option maxHeartbeats 400000 in
set_option maxRecDepth 100000 in
theorem ranges_check (A : Option Addr) (n c : Nat) (l : List Sp) (lo hi : Int) (w : World) (h : SpanS w ⟨A, n, c⟩ l) :
  Calls Tryz.prog 152 #[.slice A n c, .int .i64 lo, .int .i64 hi] w fun e w' => e = .returned (.bool (rangeOk lo hi l)) ∧ Ext w w' := by
 obtain ⟨hn, hnc, hcm⟩ := h.len
 subst hn
 go_enter Tryz.func152, Tryz.ntmps152
 go_wp2
 go_loopw [7, 12] (fun la i wr => ∃ (k : Nat) (last : Int), k ≤ l.length ∧ i = .int .i64 k ∧ la = .int .i64 last ∧ Hid (rangeOk lo hi l = (chain lo hi last (l.drop k) && decide ((l.length : Int) ≤ 256))) ∧ Ext w wr) (fun _ i _ => l.length - (intOf i).toNat)
 case atStart => exact ⟨0, -1, Nat.zero_le _, rfl, rfl, rfl, Ext.refl _⟩
 case round =>
  obtain ⟨k, last, hk, rfl, rfl, HR, hb⟩ := hrel
  by_cases hlt : k < l.length
  ·obtain ⟨b, o, ha, h0, h1, h2⟩ := (SpanS.ext h hb).at_ hlt
   subst ha
   have HD : Hid (l.drop k = l[k] :: l.drop (k + 1)) := drop_at l k hlt
   generalize l[k] = x at *
   obtain ⟨xl, xh, xv⟩ := x
   simp only at h0 h1 h2
   go_wp2
   all_goals first
    | (go_ret; exact ⟨ret_bool (by rw [HR.out, HD.out, chain_no (by simp only; omega)]; rfl), hb.alloc_ _⟩)
    | (go_roundw
       case rel => exact ⟨k + 1, xh, by omega, by go_num, rfl, hid_trans HR (by rw [HD.out, chain_yes (by simp only; omega)]), hb.alloc_ _⟩
       case measure => simp [intOf]; omega)
  ·go_wp2
   go_ret
   exact ⟨ret_bool (by rw [HR.out, drop_all l k (by omega)]; simp [chain]), hb⟩
set_option maxHeartbeats 400000 in
set_option maxRecDepth 100000 in
theorem outside_spec (lo hi val : Int) (w : World) (hg : Glob w) :
  Calls Tryz.prog 153 #[.agg #[.int .i64 lo, .int .i64 hi, .int .i64 val]] w fun e w' => e = .returned (.bool (outsideB ⟨lo, hi, val⟩)) ∧ Ext w w' := by
 obtain ⟨A, n, c, hg0, hg1⟩ := hg
 have hg' := keep_cell (w' := w.alloc (.cells #[.int .i64 lo, .int .i64 hi, .int .i64 val] 54)) (ext_keep ((Ext.refl w).alloc_ _)) hg0
 have HB : Hid (outsideB ⟨lo, hi, val⟩ = outGo lo hi blocksL) := rfl
 have hl6 : blocksL.length = 6 := rfl
 generalize blocksL = l at *
 obtain ⟨hn, hnc, hcm⟩ := hg1.len
 subst hn
 have hl6' := Lib.hid hl6
 clear hl6
 go_enter Tryz.func153, Tryz.ntmps153
 go_wp2
 go_loopw [7] (fun i wr => ∃ (k : Nat), k ≤ l.length ∧ i = .int .i64 k ∧ Hid (outsideB ⟨lo, hi, val⟩ = outGo lo hi (l.drop k)) ∧ Ext (w.alloc (.cells #[.int .i64 lo, .int .i64 hi, .int .i64 val] 54)) wr) (fun i _ => l.length - (intOf i).toNat)
 case atStart => exact ⟨0, Nat.zero_le _, rfl, HB, Ext.refl _⟩
 case round =>
  obtain ⟨k, hk, rfl, HR, hb⟩ := hrel
  have hb0 : Ext w wr := ((Ext.refl w).alloc_ _).trans' hb
  obtain ⟨hc, hf⟩ := bcell hb
  by_cases hlt : k < l.length
  ·obtain ⟨b, o, ha, h0, h1, h2⟩ := (SpanS.ext hg1 hb0).at_ hlt
   subst ha
   have HD : Hid (l.drop k = l[k] :: l.drop (k + 1)) := drop_at l k hlt
   generalize l[k] = x at *
   obtain ⟨xl, xh, xv⟩ := x
   simp only at h0 h1 h2
   have hz : w.heap.size < wr.heap.size := by have := hb.b.size; simp at this; omega
   go_wp2
   all_goals first
    | (go_ret; exact ⟨ret_bool (by rw [HR.out, HD.out, outGo_no (by simp only; omega)]), hb0.alloc_ _⟩)
    | (go_roundw
       case rel => exact ⟨k + 1, by omega, by go_num, hid_trans HR (by rw [HD.out, outGo_yes (by simp only; omega)]), hb.alloc_ _⟩
       case measure => simp [intOf]; omega)
  ·go_wp2
   go_ret
   exact ⟨ret_bool (by rw [HR.out, drop_all l k (by omega)]; simp [outGo]), hb0⟩
end Go.Proofs.YtbdabjhankgcmaaGreatDoor
namespace Go.Proofs.YtbdabjhankgcmaaGreatDoor
open Go.RowKit
set_option maxHeartbeats 800000 in
set_option maxRecDepth 100000 in
theorem search_spec (f : FuncId) (caps : Array Value) (n : Nat) (p : Nat → Bool) (w : World) (hn : n ≤ 4611686018427387904)
  (hcall : ∀ args w, (callFunc f args).run Tryz.prog w = .ok (.enter f args) w)
  (hp : ∀ i, i < n → ∀ w', Ext w w' → Calls Tryz.prog f (#[.int .i64 i] ++ caps) w' fun e w'' => e = .returned (.bool (p i)) ∧ Ext w' w'') :
  Calls Tryz.prog 161 #[.int .i64 n, .func (.func f) #[] caps] w fun e w' => ∃ i : Nat, e = .returned (.int .i64 i) ∧ i ≤ n ∧ (i < n → p i = true) ∧ (0 < i → p (i - 1) = false) ∧ Ext w w' := by
 have HP := Lib.hid hp
 clear hp
 go_enter Tryz.func161, Tryz.ntmps161
 go_wp2
 go_loopw [5, 6] (fun a b wr => ∃ (i j : Nat), i ≤ j ∧ j ≤ n ∧ a = .int .i64 i ∧ b = .int .i64 j ∧ Hid (j < n → p j = true) ∧ Hid (0 < i → p (i - 1) = false) ∧ Ext w wr) (fun a b _ => (intOf b).toNat - (intOf a).toNat)
 case atStart => exact ⟨0, n, Nat.zero_le _, Nat.le_refl _, rfl, rfl, fun h => absurd h (by omega), fun h => absurd h (by omega), Ext.refl _⟩
 case round =>
  obtain ⟨i, j, hij, hj, rfl, rfl, HJ, HI, hb⟩ := hrel
  by_cases hlt : i < j
  ·go_wp2
   obtain ⟨m, hm⟩ : ∃ m : Nat, m = (i + j) / 2 := ⟨_, rfl⟩
   rw [show ((i : Int) + j) / 2 = (m : Int) from by omega]
   have hm1 : i ≤ m := by omega
   have hm2 : m < j := by omega
   clear hm
   refine (HP.out m (by omega) wr hb).mono ?_
   rintro e w1 ⟨rfl, hb1⟩
   have hb2 := hb.trans' hb1
   cases hpm : p m
   ·have HM := Lib.hid hpm
    clear hpm
    go_wp2
    go_roundw
    case rel => exact ⟨m + 1, j, by omega, hj, by go_num, rfl, HJ, fun _ => by simpa using HM.out, hb2⟩
    case measure => simp [intOf]; omega
   ·have HM := Lib.hid hpm
    clear hpm
    go_wp2
    go_roundw
    case rel => exact ⟨i, m, by omega, by omega, rfl, rfl, fun _ => HM.out, HI, hb2⟩
    case measure => simp [intOf]; omega
  ·go_wp2
   go_ret
   exact ⟨i, rfl, by omega, fun h => HJ.out (by omega) ▸ (by rw [show i = j from by omega]), HI.out, hb⟩
theorem value1_spec (l : List Sp) (A : Option Addr) (n cap : Nat) (i : Nat) (c : Int) (pl pc : Addr) (w : World) (hi : i < l.length)
  (hpl : w.cell? pl = some (.slice A n cap)) (hpc : w.cell? pc = some (.int .i64 c)) (hs : SpanS w ⟨A, n, cap⟩ l) :
  Calls Tryz.prog 162 (#[.int .i64 i] ++ #[.pointer (some pl), .pointer (some pc)]) w fun e w' => e = .returned (.bool (decide (c ≤ l[i].hi))) ∧ Ext w w' := by
 obtain ⟨hn, hnc, hcm⟩ := hs.len
 subst hn
 obtain ⟨b, o, ha, h0, h1, h2⟩ := hs.at_ hi
 subst ha
 have hi0 : (0 : Int) ≤ (i : Int) := Int.natCast_nonneg _
 have hi1 : (i : Int) < (l.length : Int) := by omega
 generalize l[i].hi = z at *
 go_enter Tryz.func162, Tryz.ntmps162
 go_wp2
 go_quiet (fail)
 go_wp2
 go_ret
 exact ⟨rfl, (Ext.refl _).drewN_ _⟩
set_option maxHeartbeats 400000 in
theorem value_spec (l : List Sp) (A : Option Addr) (n cap : Nat) (c : Int) (w : World) (hs : SpanS w ⟨A, n, cap⟩ l) (hsort : SpSorted l) (hlen : l.length ≤ 256) :
  Calls Tryz.prog 121 #[.slice A n cap, .int .i64 c] w fun e w' => e = .returned (.int .i64 (spFind l c)) ∧ Ext w w' := by
 obtain ⟨hn, hnc, hcm⟩ := hs.len
 subst hn
 go_enter Tryz.func121, Tryz.ntmps121
 go_wp2_with fail
 refine (search_spec 162 _ l.length (fun i => decide (c ≤ (l.getD i ⟨0, 0, 0⟩).hi)) _ (by omega) Tryz.call162 ?_).mono ?_
 ·intro i hi w' hb
  have hb0 : Ext w w' := (((Ext.refl w).alloc_ _).alloc_ _).trans' hb
  rw [getD_lt l i _ hi]
  exact value1_spec l A l.length cap i c _ _ w' hi (keep_cell (ext_keep hb) (box2a _ _ _ _)) (keep_cell (ext_keep hb) (box2b _ _ _ _)) (hs.ext hb0)
 ·rintro e w1 ⟨i, rfl, hi, h1, h0, hb⟩
  have hb0 : Ext w w1 := (((Ext.refl w).alloc_ _).alloc_ _).trans' hb
  have HF := Lib.hid (spFind_search hsort (c := c) hi (fun h => by have h' := h1 h; simp only [getD_lt l i _ h] at h'; simpa using h') (fun h => by have h' := h0 h; simp only [getD_lt l (i - 1) _ (by omega)] at h'; simpa using h'))
  obtain ⟨hc, hf⟩ := bcell hb.b
  clear h1 h0
  by_cases hlt : i < l.length
  ·have hne : ((i : Int) == (l.length : Int)) = false := by rw [beq_eq_false_iff_ne]; omega
   obtain ⟨b, o, ha, h0, h1, h2⟩ := (hs.ext hb0).at_ hlt
   subst ha
   have HV : Hid (spFind l c = if c < l[i].lo then 0 else l[i].val) := by have h := HF.out; rw [dif_pos hlt] at h; exact h
   clear HF
   have hi0 : (0 : Int) ≤ (i : Int) := Int.natCast_nonneg _
   have hi1 : (i : Int) < (l.length : Int) := by omega
   generalize l[i] = x at *
   obtain ⟨xl, xh, xv⟩ := x
   simp only at h0 h1 h2 HV
   go_wp2
   go_quiet (fail)
   go_wp2
   ·go_ret
    exact ⟨ret_int (by rw [HV.out, if_pos (by assumption)]), hb0.drewN_ _⟩
   ·go_ret
    exact ⟨ret_int (by rw [HV.out, if_neg (by omega)]), hb0.drewN_ _⟩
  ·obtain rfl : i = l.length := by omega
   have HV : Hid (spFind l c = 0) := by have h := HF.out; rw [dif_neg hlt] at h; exact h
   clear HF
   go_wp2
   go_quiet (fail)
   go_wp2
   go_ret
   exact ⟨ret_int (by rw [HV.out]), hb0.drewN_ _⟩
theorem find1_spec (l : List Mp) (A : Option Addr) (n cap : Nat) (i : Nat) (c : Int) (pl pc : Addr) (w : World) (hi : i < l.length)
  (hpl : w.cell? pl = some (.slice A n cap)) (hpc : w.cell? pc = some (.int .i64 c)) (hs : MapS w ⟨A, n, cap⟩ l) :
  Calls Tryz.prog 182 (#[.int .i64 i] ++ #[.pointer (some pl), .pointer (some pc)]) w fun e w' => e = .returned (.bool (decide (c ≤ l[i].lo))) ∧ Ext w w' := by
 obtain ⟨hn, hnc, hcm⟩ := hs.len
 subst hn
 obtain ⟨b, o, za, zn, zc, ha, h0, h1, h2⟩ := hs.at_ hi
 subst ha
 have hi0 : (0 : Int) ≤ (i : Int) := Int.natCast_nonneg _
 have hi1 : (i : Int) < (l.length : Int) := by omega
 clear h1 h2
 generalize l[i].lo = z at *
 go_enter Tryz.func182, Tryz.ntmps182
 go_wp2
 go_quiet (fail)
 go_wp2
 go_ret
 exact ⟨rfl, (Ext.refl _).drewN_ _⟩
theorem mpHas_none {l : List Mp} {c : Int} (h : mpHas l c = false) : ∀ i (hi : i < l.length), l[i].lo ≠ c := by
 intro i hi he
 simp only [mpHas, List.any_eq_false, decide_eq_true_eq] at h
 exact h l[i] (by simp) he
set_option maxHeartbeats 400000 in
theorem find_val (l : List Mp) (A : Option Addr) (n cap : Nat) (c : Int) (w : World) (za : Option Addr) (zn zc : Nat) (hs : MapS w ⟨A, n, cap⟩ l) (hsort : MpSorted l) (hlen : l.length ≤ 256)
  (hv : ∀ i b o (hi : i < l.length), A = some ⟨b, o, none⟩ → l[i].lo = c → w.cell? ⟨b, o + i * 2 + 1, none⟩ = some (.slice za zn zc))
  (hv0 : (∀ i (hi : i < l.length), l[i].lo ≠ c) → za = none ∧ zn = 0 ∧ zc = 0) :
  Calls Tryz.prog 146 #[.slice A n cap, .int .i64 c] w fun e w' => e = .returned (.slice za zn zc) ∧ Ext w w' := by
 obtain ⟨hn, hnc, hcm⟩ := hs.len
 subst hn
 have HV := Lib.hid hv
 have HV0 := Lib.hid hv0
 clear hv hv0
 go_enter Tryz.func146, Tryz.ntmps146
 go_wp2_with fail
 refine (search_spec 182 _ l.length (fun i => decide (c ≤ (l.getD i ⟨0, []⟩).lo)) _ (by omega) Tryz.call182 ?_).mono ?_
 ·intro i hi w' hb
  have hb0 : Ext w w' := (((Ext.refl w).alloc_ _).alloc_ _).trans' hb
  rw [getD_lt l i _ hi]
  exact find1_spec l A l.length cap i c _ _ w' hi (keep_cell (ext_keep hb) (box2a _ _ _ _)) (keep_cell (ext_keep hb) (box2b _ _ _ _)) (hs.ext hb0)
 ·rintro e w1 ⟨i, rfl, hi, h1, h0, hb⟩
  have hb0 : Ext w w1 := (((Ext.refl w).alloc_ _).alloc_ _).trans' hb
  have HF := Lib.hid (mpFind_search hsort (c := c) hi (fun h => by have h' := h1 h; simp only [getD_lt l i _ h] at h'; simpa using h') (fun h => by have h' := h0 h; simp only [getD_lt l (i - 1) _ (by omega)] at h'; simpa using h')).2
  obtain ⟨hc, hf⟩ := bcell hb.b
  clear h1 h0
  by_cases hlt : i < l.length
  ·have hne : ((i : Int) == (l.length : Int)) = false := by rw [beq_eq_false_iff_ne]; omega
   obtain ⟨b, o, ya, yn, yc, ha, h0, h1, h2⟩ := (hs.ext hb0).at_ hlt
   have HVI := Lib.hid fun h => keep_cell (ext_keep hb0) (HV.out i b o hlt ha h)
   subst ha
   have HW : Hid (mpHas l c = decide (l[i].lo = c)) := by have h := HF.out; rw [dif_pos hlt] at h; exact h
   clear HF HV h2
   have hi0 : (0 : Int) ≤ (i : Int) := Int.natCast_nonneg _
   have hi1 : (i : Int) < (l.length : Int) := by omega
   generalize l[i].lo = xl at *
   by_cases hxc : xl = c
   ·subst hxc
    have e := h1.symm.trans (HVI.out rfl)
    injection e with e
    injection e with e1 e2 e3
    subst e1 e2 e3
    clear HVI HW HV0
    go_wp2
    go_quiet (fail)
    go_wp2
    go_ret
    exact ⟨rfl, hb0.drewN_ _⟩
   ·obtain ⟨rfl, rfl, rfl⟩ := HV0.out (mpHas_none (by rw [HW.out]; simpa using hxc))
    have hxb : (xl != c) = true := by rw [bne_iff_ne]; exact hxc
    clear HVI HW HV0
    go_wp2
    go_quiet (fail)
    go_wp2
    go_ret
    exact ⟨rfl, hb0.drewN_ _⟩
  ·obtain rfl : i = l.length := by omega
   obtain ⟨rfl, rfl, rfl⟩ := HV0.out (mpHas_none (by have h := HF.out; rw [dif_neg hlt] at h; exact h))
   clear HF HV HV0
   go_wp2
   go_quiet (fail)
   go_wp2
   go_ret
   exact ⟨rfl, hb0.drewN_ _⟩
theorem find_det (l : List Mp) (A : Option Addr) (n cap : Nat) (c : Int) (w : World) (hs : MapS w ⟨A, n, cap⟩ l) (hsort : MpSorted l) (hlen : l.length ≤ 256) :
  ∃ za zn zc, IntS w ⟨za, zn, zc⟩ (mpFind l c) ∧ (mpHas l c = false → za = none ∧ zn = 0 ∧ zc = 0) ∧
   ∀ w', Ext w w' → Calls Tryz.prog 146 #[.slice A n cap, .int .i64 c] w' fun e w'' => e = .returned (.slice za zn zc) ∧ Ext w' w'' := by
 cases hh : mpHas l c
 ·have hn := mpHas_none hh
  have he : mpFind l c = [] := mpFind_none fun s hm => by
   obtain ⟨j, hj, rfl⟩ := List.getElem_of_mem hm
   exact hn j hj
  refine ⟨none, 0, 0, by rw [he]; exact IntS.nil_ w, fun _ => ⟨rfl, rfl, rfl⟩, fun w' hb => ?_⟩
  exact find_val l A n cap c w' none 0 0 (hs.ext hb) hsort hlen (fun i b o hi _ h => absurd h (hn i hi)) fun _ => ⟨rfl, rfl, rfl⟩
 ·simp only [mpHas, List.any_eq_true, decide_eq_true_eq] at hh
  obtain ⟨m, hm, hmc⟩ := hh
  obtain ⟨i, hi, rfl⟩ := List.getElem_of_mem hm
  obtain ⟨b, o, za, zn, zc, ha, h0, h1, h2⟩ := hs.at_ hi
  have hb : ∀ j (hj : j < i), l[j].lo < c := fun j hj => by have := hsort j i hj hi; omega
  refine ⟨za, zn, zc, by rw [mpFind_at i hi hmc hb]; exact h2, (fun h => by cases h), fun w' hbw => ?_⟩
  refine find_val l A n cap c w' za zn zc (hs.ext hbw) hsort hlen (fun j b' o' hj ha' hjc => ?_) fun hno => absurd hmc (hno i hi)
  obtain rfl : j = i := by
   rcases Nat.lt_trichotomy j i with h | h | h
   ·have := hb j h; omega
   ·exact h
   ·have := hsort i j h hj; omega
  rw [ha] at ha'
  injection ha' with ha'
  injection ha' with e1 e2
  subst e1 e2
  exact keep_cell (ext_keep hbw) h1
theorem find_spec (l : List Mp) (A : Option Addr) (n cap : Nat) (c : Int) (w : World) (hs : MapS w ⟨A, n, cap⟩ l) (hsort : MpSorted l) (hne : NonE l) (hlen : l.length ≤ 256) :
  Calls Tryz.prog 146 #[.slice A n cap, .int .i64 c] w fun e w' => ∃ za zn zc, e = .returned (.slice za zn zc) ∧ IntS w' ⟨za, zn, zc⟩ (mpFind l c) ∧ (mpFind l c = [] → za = none ∧ zc = 0) ∧ Ext w w' := by
 obtain ⟨za, zn, zc, h1, h2, h3⟩ := find_det l A n cap c w hs hsort hlen
 refine (h3 w (Ext.refl w)).mono fun e w' ⟨he, hb⟩ => ⟨za, zn, zc, he, h1.ext hb, fun h => ?_, hb⟩
 have := h2 (mpHas_of_nil hne h)
 exact ⟨this.1, this.2.2⟩
theorem find_cases {w : World} {za : Option Addr} {zn zc : Nat} {l : List Int} (h : IntS w ⟨za, zn, zc⟩ l) (hn : l = [] → za = none ∧ zc = 0) :
  (l = [] ∧ za = none ∧ zn = 0 ∧ zc = 0) ∨ ∃ b o, l ≠ [] ∧ za = some ⟨b, o, none⟩ := by
 cases l with
 | nil =>
  obtain ⟨h1, h2⟩ := hn rfl
  exact .inl ⟨rfl, h1, h.len.1, h2⟩
 | cons x r =>
  obtain ⟨b, o, ha, _⟩ := h.at_ (i := 0) (by simp)
  exact .inr ⟨b, o, by simp, ha⟩
theorem searchInts1_spec (l : List Int) (A : Option Addr) (n cap : Nat) (i : Nat) (c : Int) (pl pc : Addr) (w : World) (hi : i < l.length)
  (hpl : w.cell? pl = some (.slice A n cap)) (hpc : w.cell? pc = some (.int .i64 c)) (hs : IntS w ⟨A, n, cap⟩ l) :
  Calls Tryz.prog 190 (#[.int .i64 i] ++ #[.pointer (some pl), .pointer (some pc)]) w fun e w' => e = .returned (.bool (decide (c ≤ l[i]))) ∧ Ext w w' := by
 obtain ⟨hn, hnc, hcm⟩ := hs.len
 subst hn
 obtain ⟨b, o, ha, h0⟩ := hs.at_ hi
 subst ha
 have hi0 : (0 : Int) ≤ (i : Int) := Int.natCast_nonneg _
 have hi1 : (i : Int) < (l.length : Int) := by omega
 generalize l[i] = z at *
 go_enter Tryz.func190, Tryz.ntmps190
 go_wp2
 go_quiet (fail)
 go_wp2
 go_ret
 exact ⟨rfl, (Ext.refl _).drewN_ _⟩
theorem searchInts_spec (l : List Int) (A : Option Addr) (n cap : Nat) (c : Int) (w : World) (hs : IntS w ⟨A, n, cap⟩ l) (hlen : l.length ≤ 256) :
  Calls Tryz.prog 183 #[.slice A n cap, .int .i64 c] w fun e w' => ∃ i : Nat, e = .returned (.int .i64 i) ∧ i ≤ l.length ∧ (∀ h : i < l.length, c ≤ l[i]) ∧ (∀ _ : 0 < i, ∀ _ : i - 1 < l.length, l[i - 1] < c) ∧ Ext w w' := by
 obtain ⟨hn, hnc, hcm⟩ := hs.len
 subst hn
 go_enter Tryz.func183, Tryz.ntmps183
 go_wp2_with fail
 refine (search_spec 190 _ l.length (fun i => decide (c ≤ l.getD i 0)) _ (by omega) Tryz.call190 ?_).mono ?_
 ·intro i hi w' hb
  have hb0 : Ext w w' := (((Ext.refl w).alloc_ _).alloc_ _).trans' hb
  rw [getD_lt l i _ hi]
  exact searchInts1_spec l A l.length cap i c _ _ w' hi (keep_cell (ext_keep hb) (box2a _ _ _ _)) (keep_cell (ext_keep hb) (box2b _ _ _ _)) (hs.ext hb0)
 ·rintro e w1 ⟨i, rfl, hi, h1, h0, hb⟩
  have hb0 : Ext w w1 := (((Ext.refl w).alloc_ _).alloc_ _).trans' hb
  have H1 : Hid (∀ h : i < l.length, c ≤ l[i]) := fun h => by have h' := h1 h; simp only [getD_lt l i _ h] at h'; simpa using h'
  have H0 : Hid (∀ _ : 0 < i, ∀ _ : i - 1 < l.length, l[i - 1] < c) := fun h hh => by have h' := h0 h; simp only [getD_lt l (i - 1) _ hh] at h'; simpa using h'
  clear h1 h0
  go_wp2
  go_ret
  exact ⟨i, rfl, hi, H1.out, H0.out, hb0⟩
set_option maxHeartbeats 400000 in
theorem excluded_look (t : TV) (T : Tbl) (c : Int) (w : World) (ht : TblS w t T) (hsort : InSorted T.exc) (hlen : T.exc.length ≤ 256) :
  Calls Tryz.prog 147 #[t.v, .int .i64 c] w fun e w' => e = .returned (.bool (exHas T.exc c)) ∧ Ext w w' := by
 obtain ⟨s0, s1, s2, s3, s4, s5, s6, s7, s8, s9, ⟨A, n, cc⟩, s11⟩ := t
 have hx : IntS w ⟨A, n, cc⟩ T.exc := ht.exc
 clear ht
 generalize T.exc = l at *
 obtain ⟨hn, hnc, hcm⟩ := hx.len
 subst hn
 simp only [TV.v]
 go_enter Tryz.func147, Tryz.ntmps147
 go_wp2_with fail
 refine (searchInts_spec l _ _ _ c _ (hx.ext ((Ext.refl w).alloc_ _)) hlen).mono ?_
 rintro e w1 ⟨i, rfl, hi, h1, h0, hb⟩
 have hb0 : Ext w w1 := ((Ext.refl w).alloc_ _).trans' hb
 have HF := Lib.hid (exHas_search hsort hi h1 fun h => h0 h (by omega))
 clear h1 h0
 obtain ⟨hc, hf⟩ := bcell hb.b
 by_cases hlt : i < l.length
 ·obtain ⟨b, o, ha, hx⟩ := (hx.ext hb0).at_ hlt
  subst ha
  have hi0 : (0 : Int) ≤ (i : Int) := Int.natCast_nonneg _
  have hi1 : (i : Int) < (l.length : Int) := by omega
  have HV : Hid (exHas l c = decide (l[i] = c)) := by have h := HF.out; rw [dif_pos hlt] at h; exact h
  clear HF
  generalize l[i] = z at *
  go_wp2
  go_ret
  exact ⟨ret_bool (by rw [HV.out, Bool.eq_iff_iff]; simp), hb0⟩
 ·obtain rfl : i = l.length := by omega
  have HV : Hid (exHas l c = false) := by have h := HF.out; rw [dif_neg hlt] at h; exact h
  clear HF
  go_wp2
  go_ret
  exact ⟨ret_bool (by rw [HV.out]), hb0⟩
end Go.Proofs.YtbdabjhankgcmaaGreatDoor
namespace Go.Proofs.YtbdabjhankgcmaaGreatDoor
open Go.RowKit
def fixV (c : Int) : Value := .agg #[.int .i64 (fixCat c), .int .i64 (fixBid c), .int .i64 (fixScr c), .int .i64 (fixSta c)]
set_option maxHeartbeats 1000000 in
theorem fixed_spec (c : Int) (w : World) : Calls Tryz.prog 166 #[.int .i64 c] w fun e w' => e = .returned (fixV c) ∧ Ext w w' := by
 go_enter Tryz.func166, Tryz.ntmps166
 go_wp2_with (first
  | (go_at_call 157; refine (syllable_spec _ _).mono ?_; rintro e w' ⟨rfl, rfl⟩; cases h1 : syllB c)
  | (go_at_call 158; refine (jamo_spec _ _).mono ?_; rintro e w' ⟨rfl, rfl⟩; cases h2 : jamoB c))
 all_goals (refine bodyPost_ret (v := fixV c) ?_ rfl ⟨rfl, ?_⟩)
 all_goals first
  | (refine Ext.alloc_ (Ext.refl _) _)
  | (simp [results, Tryz.results166, go_sem, fixV]
     try (simp only [beq_iff_eq, beq_eq_false_iff_ne, ne_eq] at *)
     unfold fixCat fixBid fixScr fixSta
     first
      | omega
      | (repeat (first | rw [if_pos (by first | omega | assumption)] | rw [if_neg (by first | omega | (simp [*]; done))])
         simp))
theorem script1_spec (a b c d : Int) (w : World) : Calls Tryz.prog 191 #[.agg #[.int .i64 a, .int .i64 b, .int .i64 c, .int .i64 d]] w fun e w' => e = .returned (.int .i64 c) ∧ Ext w w' := by
 go_enter Tryz.func191, Tryz.ntmps191
 go_wp2
 go_ret
 exact ⟨rfl, (Ext.refl w).alloc_ _⟩
theorem status1_spec (a b c d : Int) (w : World) : Calls Tryz.prog 129 #[.agg #[.int .i64 a, .int .i64 b, .int .i64 c, .int .i64 d]] w fun e w' => e = .returned (.int .i64 d) ∧ Ext w w' := by
 go_enter Tryz.func129, Tryz.ntmps129
 go_wp2
 go_ret
 exact ⟨rfl, (Ext.refl w).alloc_ _⟩
theorem pick_spec (f : FuncId) (own : Int → Int) (l : List Sp) (A : Option Addr) (n cap : Nat) (c : Int) (w : World) (hs : SpanS w ⟨A, n, cap⟩ l) (hsort : SpSorted l) (hlen : l.length ≤ 256)
  (hcall : ∀ args w, (callFunc f args).run Tryz.prog w = .ok (.enter f args) w)
  (hown : ∀ w, Calls Tryz.prog f #[fixV c] w fun e w' => e = .returned (.int .i64 (own c)) ∧ Ext w w') :
  Calls Tryz.prog 127 #[.slice A n cap, .int .i64 c, .func (.func f) #[] #[]] w fun e w' => e = .returned (.int .i64 (pickP l own c)) ∧ Ext w w' := by
 have HO := Lib.hid hown
 clear hown
 cases h1 : utfLen c == 0
 ·have h1' : scalarB c = true := by
   cases hs : scalarB c
   ·have := (utfLen_eq_zero c).2 hs; simp [this] at h1
   ·rfl
  cases h2 : resB c
  ·have HV : Hid (pickP l own c = spFind l c) := by unfold pickP; rw [h1', h2]; rfl
   have H2 := Lib.hid h2
   clear h2 h1'
   go_enter Tryz.func127, Tryz.ntmps127
   go_wp2_with (first
    | (go_at_call 71; refine (length_spec _ _).mono ?_; rintro e w' ⟨rfl, rfl⟩)
    | (go_at_call 165; refine (reserved_spec _ _).mono ?_; rintro e w' ⟨rfl, rfl⟩; rw [H2.out])
    | (go_at_call 121; refine (value_spec l _ _ _ _ _ hs hsort hlen).mono ?_; rintro e w1 ⟨rfl, hb⟩))
   go_ret
   exact ⟨ret_int (by rw [HV.out]), hb⟩
  ·have HV : Hid (pickP l own c = own c) := by unfold pickP; rw [h1', h2]; rfl
   have H2 := Lib.hid h2
   clear h2 h1'
   go_enter Tryz.func127, Tryz.ntmps127
   go_wp2_with (first
    | (go_at_call 71; refine (length_spec _ _).mono ?_; rintro e w' ⟨rfl, rfl⟩)
    | (go_at_call 165; refine (reserved_spec _ _).mono ?_; rintro e w' ⟨rfl, rfl⟩; rw [H2.out])
    | (go_at_call 166; refine (fixed_spec _ _).mono ?_; rintro e w1 ⟨rfl, hb⟩))
   refine (HO.out w1).mono ?_
   rintro e w2 ⟨rfl, hb2⟩
   go_wp2
   go_ret
   exact ⟨ret_int (by rw [HV.out]), hb.trans' hb2⟩
 ·have HV : Hid (pickP l own c = 0) := by
   have := (utfLen_eq_zero c).1 (by simpa using h1)
   unfold pickP; rw [this]; rfl
  go_enter Tryz.func127, Tryz.ntmps127
  go_wp2_with (first
    | (go_at_call 71; refine (length_spec _ _).mono ?_; rintro e w' ⟨rfl, rfl⟩))
  go_ret
  exact ⟨ret_int (by rw [HV.out]), Ext.refl _⟩
structure Srt (T : Tbl) : Prop where
 cat : SpSorted T.cat ∧ T.cat.length ≤ 256
 cls : SpSorted T.cls ∧ T.cls.length ≤ 256
 joi : SpSorted T.joi ∧ T.joi.length ≤ 256
 bid : SpSorted T.bid ∧ T.bid.length ≤ 256
 scr : SpSorted T.scr ∧ T.scr.length ≤ 256
 sta : SpSorted T.sta ∧ T.sta.length ≤ 256
 ign : SpSorted T.ign ∧ T.ign.length ≤ 256
 ext : MpSorted T.ext ∧ T.ext.length ≤ 256
 mps : MpSorted T.mps ∧ T.mps.length ≤ 256
 dec : MpSorted T.dec ∧ T.dec.length ≤ 256
 exc : InSorted T.exc ∧ T.exc.length ≤ 256
 pro : MpSorted T.pro ∧ T.pro.length ≤ 256
structure NonEs (T : Tbl) : Prop where
 ext : NonE T.ext
 mps : NonE T.mps
 dec : NonE T.dec
 pro : NonE T.pro
theorem class_spec (t : TV) (T : Tbl) (c : Int) (w : World) (ht : TblS w t T) (hs : Srt T) :
  Calls Tryz.prog 66 #[t.v, .int .i64 c] w fun e w' => e = .returned (.int .i64 (clsT T c)) ∧ Ext w w' := by
 have hx := ht.cls.ext ((Ext.refl w).alloc_ (.cells t.v.cells 26))
 go_enter Tryz.func66, Tryz.ntmps66
 go_wp2_with (go_at_call 121; refine (value_spec T.cls _ _ _ _ _ hx hs.cls.1 hs.cls.2).mono ?_; rintro e w1 ⟨rfl, hb⟩)
 go_ret
 exact ⟨rfl, ((Ext.refl w).alloc_ _).trans' hb⟩
theorem joining_spec (t : TV) (T : Tbl) (c : Int) (w : World) (ht : TblS w t T) (hs : Srt T) :
  Calls Tryz.prog 188 #[t.v, .int .i64 c] w fun e w' => e = .returned (.int .i64 (joiT T c)) ∧ Ext w w' := by
 have hx := ht.joi.ext ((Ext.refl w).alloc_ (.cells t.v.cells 26))
 go_enter Tryz.func188, Tryz.ntmps188
 go_wp2_with (go_at_call 121; refine (value_spec T.joi _ _ _ _ _ hx hs.joi.1 hs.joi.2).mono ?_; rintro e w1 ⟨rfl, hb⟩)
 go_ret
 exact ⟨rfl, ((Ext.refl w).alloc_ _).trans' hb⟩
theorem ignorable_spec (t : TV) (T : Tbl) (c : Int) (w : World) (ht : TblS w t T) (hs : Srt T) :
  Calls Tryz.prog 185 #[t.v, .int .i64 c] w fun e w' => e = .returned (.bool (ignT T c)) ∧ Ext w w' := by
 have hx := ht.ign.ext ((Ext.refl w).alloc_ (.cells t.v.cells 26))
 go_enter Tryz.func185, Tryz.ntmps185
 go_wp2_with (go_at_call 121; refine (value_spec T.ign _ _ _ _ _ hx hs.ign.1 hs.ign.2).mono ?_; rintro e w1 ⟨rfl, hb⟩)
 go_ret
 exact ⟨rfl, ((Ext.refl w).alloc_ _).trans' hb⟩
theorem status_spec (t : TV) (T : Tbl) (c : Int) (w : World) (ht : TblS w t T) (hs : Srt T) :
  Calls Tryz.prog 77 #[t.v, .int .i64 c] w fun e w' => e = .returned (.int .i64 (staT T c)) ∧ Ext w w' := by
 have hx := ht.sta.ext ((Ext.refl w).alloc_ (.cells t.v.cells 26))
 go_enter Tryz.func77, Tryz.ntmps77
 go_wp2_with (go_at_call 127; refine (pick_spec 129 fixSta T.sta _ _ _ _ _ hx hs.sta.1 hs.sta.2 Tryz.call129 (fun _ => status1_spec _ _ _ _ _)).mono ?_; rintro e w1 ⟨rfl, hb⟩)
 go_ret
 exact ⟨rfl, ((Ext.refl w).alloc_ _).trans' hb⟩
theorem script_spec (t : TV) (T : Tbl) (c : Int) (w : World) (ht : TblS w t T) (hs : Srt T) :
  Calls Tryz.prog 189 #[t.v, .int .i64 c] w fun e w' => e = .returned (.int .i64 (scrT T c)) ∧ Ext w w' := by
 have hx := ht.scr.ext ((Ext.refl w).alloc_ (.cells t.v.cells 26))
 go_enter Tryz.func189, Tryz.ntmps189
 go_wp2_with (go_at_call 127; refine (pick_spec 191 fixScr T.scr _ _ _ _ _ hx hs.scr.1 hs.scr.2 Tryz.call191 (fun _ => script1_spec _ _ _ _ _)).mono ?_; rintro e w1 ⟨rfl, hb⟩)
 go_ret
 exact ⟨rfl, ((Ext.refl w).alloc_ _).trans' hb⟩
set_option maxRecDepth 100000 in
theorem plain_spec (t : TV) (T : Tbl) (c : Int) (w : World) (ht : TblS w t T) (hs : Srt T) (hn : NonEs T) :
  Calls Tryz.prog 160 #[t.v, .int .i64 c] w fun e w' => e = .returned (.bool (plainB T c)) ∧ Ext w w' := by
 have hx := ht.dec.ext ((Ext.refl w).alloc_ (.cells t.v.cells 26))
 have HV : Hid (plainB T c = ((mpFind T.dec c).isEmpty && !ignT T c)) := rfl
 go_enter Tryz.func160, Tryz.ntmps160
 go_wp2_with fail
 refine (find_spec T.dec _ _ _ c _ hx hs.dec.1 hn.dec hs.dec.2).mono ?_
 rintro e w1 ⟨za, zn, zc, rfl, hz, hnil, hb⟩
 have hb0 : Ext w w1 := ((Ext.refl w).alloc_ _).trans' hb
 obtain ⟨hc, hf⟩ := bcell hb.b
 rcases find_cases hz hnil with ⟨he, rfl, rfl, rfl⟩ | ⟨b, o, he, rfl⟩
 ·have HE : Hid (mpFind T.dec c = []) := he
  clear he hz hnil
  go_wp2_with fail
  refine (ignorable_spec t T c _ (ht.ext_ hb0) hs).mono ?_
  rintro e w2 ⟨rfl, hb2⟩
  have HI : Hid (plainB T c = !ignT T c) := by rw [HV.out, HE.out]; rfl
  clear HV HE
  go_wp2
  go_ret
  exact ⟨ret_bool (by rw [HI.out]), hb0.trans' hb2⟩
 ·have HE : Hid (mpFind T.dec c ≠ []) := he
  clear he hz hnil
  have HI : Hid (plainB T c = false) := by
   rw [HV.out]
   have : (mpFind T.dec c).isEmpty = false := by simpa using HE.out
   rw [this]; rfl
  clear HV HE
  go_wp2_with fail
  go_ret
  exact ⟨ret_bool (by rw [HI.out]), hb0⟩
end Go.Proofs.YtbdabjhankgcmaaGreatDoor
