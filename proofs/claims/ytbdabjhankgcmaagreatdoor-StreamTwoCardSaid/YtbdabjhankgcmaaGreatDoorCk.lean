/- What the rules give; the walk of table.Check. (Its nine rounds by program: chk_gen.py.) -/
import Derived.Test.YtbdabjhankgcmaaGreatDoorGc
import Derived.Test.YtbdabjhankgcmaaGreatDoorGs
namespace Go.Proofs.YtbdabjhankgcmaaGreatDoor
open Go.RowKit
theorem chain_all {lo hi : Int} : ∀ {l : List Sp} {last : Int}, chain lo hi last l = true → (∀ s ∈ l, last < s.lo ∧ s.lo ≤ s.hi ∧ s.hi ≤ 1114111 ∧ lo ≤ s.lo ∧ s.hi ≤ hi) ∧ SpSorted l
 | [], _, _ => ⟨by simp, by simp, fun i j _ hj => absurd hj (by simp)⟩
 | s :: r, last, h => by
  simp only [chain, Bool.and_eq_true, Bool.not_eq_true', Bool.or_eq_false_iff, decide_eq_false_iff_not] at h
  obtain ⟨⟨⟨⟨⟨h1, h2⟩, h3⟩, h4⟩, h5⟩, hr⟩ := h
  obtain ⟨ha, hs⟩ := chain_all hr
  refine ⟨fun x hx => ?_, fun x hx => ?_, fun i j hij hj => ?_⟩
  ·rcases List.mem_cons.1 hx with rfl | hx
   ·omega
   ·have := ha x hx; omega
  ·rcases List.mem_cons.1 hx with rfl | hx
   ·omega
   ·exact hs.1 x hx
  ·cases j with
   | zero => omega
   | succ j =>
    cases i with
    | zero =>
     simp only [List.getElem_cons_zero, List.getElem_cons_succ]
     have := ha (r[j]'(by simpa using hj)) (by simp)
     omega
    | succ i =>
     simp only [List.getElem_cons_succ]
     exact hs.2 i j (by omega) (by simpa using hj)
theorem shapeL_sorted {i : Int} : ∀ {l : List Mp} {last : Int}, shapeL i last l = true → (∀ m ∈ l, last < m.lo) ∧ MpSorted l
 | [], _, _ => ⟨by simp, fun i j _ hj => absurd hj (by simp)⟩
 | m :: r, last, h => by
  simp only [shapeL, pointB, Bool.and_eq_true, Bool.or_eq_true, decide_eq_true_eq] at h
  obtain ⟨h1, hr⟩ := h
  have hl : last < m.lo := by
   rcases h1 with h1 | h1
   ·exact h1.1.1
   ·exact h1.1.2
  obtain ⟨ha, hs⟩ := shapeL_sorted hr
  refine ⟨fun x hx => ?_, fun i j hij hj => ?_⟩
  ·rcases List.mem_cons.1 hx with rfl | hx
   ·exact hl
   ·have := ha x hx; omega
  ·cases j with
   | zero => omega
   | succ j =>
    cases i with
    | zero =>
     simp only [List.getElem_cons_zero, List.getElem_cons_succ]
     exact ha (r[j]'(by simpa using hj)) (by simp)
    | succ i =>
     simp only [List.getElem_cons_succ]
     exact hs i j (by omega) (by simpa using hj)
theorem shapeE_sorted : ∀ {l : List Int} {last : Int}, shapeE last l = true → (∀ m ∈ l, last < m) ∧ InSorted l
 | [], _, _ => ⟨by simp, fun i j _ hj => absurd hj (by simp)⟩
 | m :: r, last, h => by
  simp only [shapeE, pointB, Bool.and_eq_true, decide_eq_true_eq] at h
  obtain ⟨⟨⟨hl, _⟩, _⟩, hr⟩ := h
  obtain ⟨ha, hs⟩ := shapeE_sorted hr
  refine ⟨fun x hx => ?_, fun i j hij hj => ?_⟩
  ·rcases List.mem_cons.1 hx with rfl | hx
   ·exact hl
   ·have := ha x hx; omega
  ·cases j with
   | zero => omega
   | succ j =>
    cases i with
    | zero =>
     simp only [List.getElem_cons_zero, List.getElem_cons_succ]
     exact ha (r[j]'(by simpa using hj)) (by simp)
    | succ i =>
     simp only [List.getElem_cons_succ]
     exact hs i j (by omega) (by simpa using hj)
theorem srt_of {T : Tbl} (hr : rowsB T = true) (h : shapeB T = true) : Srt T ∧ ∀ s ∈ T.sta, 0 ≤ s.lo ∧ s.lo ≤ s.hi ∧ s.hi ≤ 1114111 := by
 simp only [rowsB, cols, maps, rowsC, rowsM, Bool.and_eq_true, decide_eq_true_eq] at hr
 simp only [shapeB, cols, maps, shapeC, shapeM, rangeOk, Bool.and_eq_true, decide_eq_true_eq] at h
 obtain ⟨⟨hx, r0, r1, r2, r3, r4, r5, r6, _⟩, m0, m1, m2, m3, _⟩ := hr
 obtain ⟨⟨⟨c0, c1, c2, c3, c4, c5, c6, _⟩, q0, q1, q2, q3, _⟩, he⟩ := h
 refine ⟨⟨⟨(chain_all c0.1.1).2, by omega⟩, ⟨(chain_all c1.1.1).2, by omega⟩, ⟨(chain_all c2.1.1).2, by omega⟩, ⟨(chain_all c3.1.1).2, by omega⟩, ⟨(chain_all c4.1.1).2, by omega⟩, ⟨(chain_all c5.1.1).2, by omega⟩,
  ⟨(chain_all c6.1.1).2, by omega⟩, ⟨(shapeL_sorted q0).2, by omega⟩, ⟨(shapeL_sorted q1).2, by omega⟩, ⟨(shapeL_sorted q2).2, by omega⟩, ⟨(shapeE_sorted he).2, by omega⟩, ⟨(shapeL_sorted q3).2, by omega⟩⟩, fun s hs => ?_⟩
 have := (chain_all c5.1.1).1 s hs
 omega
theorem targetsL_ne {i : Int} : ∀ {l : List Mp}, targetsL i l = true → NonE l
 | [], _ => by intro m hm; cases hm
 | m :: r, h => by
  simp only [targetsL, Bool.and_eq_true, Bool.not_eq_true', Bool.or_eq_false_iff, decide_eq_false_iff_not] at h
  obtain ⟨⟨⟨h1, _⟩, _⟩, hr⟩ := h
  intro x hx
  rcases List.mem_cons.1 hx with rfl | hx
  ·intro e; rw [e] at h1; simp at h1
  ·exact targetsL_ne hr x hx
theorem nonEs_of {T : Tbl} (h : targetsB T = true) : NonEs T := by
 simp only [targetsB, maps, targetsM, Bool.and_eq_true] at h
 obtain ⟨h0, h1, h2, h3, _⟩ := h
 exact ⟨targetsL_ne h0, targetsL_ne h1, targetsL_ne h2, targetsL_ne h3⟩
theorem sizesL_all {D : List Mp} {k : Nat} : ∀ {l : List Mp}, sizesL D k l = true → ∀ m ∈ l, szN D k m.lo ≤ 18
 | [], _ => by simp
 | m :: r, h => by
  simp only [sizesL, Bool.and_eq_true, Bool.not_eq_true', decide_eq_false_iff_not] at h
  intro x hx
  rcases List.mem_cons.1 hx with rfl | hx
  ·omega
  ·exact sizesL_all h.2 x hx
theorem mpFind_mem {l : List Mp} {c : Int} (h : mpFind l c ≠ []) : ∃ m ∈ l, m.lo = c := by
 refine Classical.byContradiction fun hn => h (mpFind_none fun s hs e => hn ⟨s, hs, e⟩)
theorem finD_of {T : Tbl} (h : decomposedB T = true) : FinD T.dec := by
 simp only [decomposedB, Bool.and_eq_true] at h
 intro c
 by_cases he : mpFind T.dec c = []
 ·simp only [szN, if_pos he]; omega
 ·obtain ⟨m, hm, rfl⟩ := mpFind_mem he
  exact sizesL_all h.2 m hm
def rulesL (T : Tbl) : List Bool := [rowsB T, shapeB T, valuesB T, targetsB T, mappedB T, decomposedB T, excludedB T, uniqueB T, prototypedB T]
def chkL : Int → List Bool → Int
 | _, [] => 0
 | i, b :: r => if b = true then chkL (i + 1) r else i + 1
theorem checkNo_chk (T : Tbl) : checkNo T = chkL 0 (rulesL T) := by
 unfold checkNo rulesL
 cases rowsB T <;> cases shapeB T <;> cases valuesB T <;> cases targetsB T <;> cases mappedB T <;> cases decomposedB T <;> cases excludedB T <;> cases uniqueB T <;> cases prototypedB T <;> rfl
set_option maxHeartbeats 4000000 in
set_option maxRecDepth 100000 in
theorem check_spec (t : TV) (T : Tbl) (w : World) (ht : TblS w t T) :
  Calls Tryz.prog 63 #[t.v] w fun e w' => e = .returned (.int .i64 (checkNo T)) ∧ Ext w w' := by
 have HB : Hid (checkNo T = chkL ((0 : Nat) : Int) ((rulesL T).drop 0)) := checkNo_chk T
 have hlen : (rulesL T).length = 9 := rfl
 have HLEN := Lib.hid hlen
 clear hlen
 have hbm : Ext w ((w.alloc (.cells #[.slice t.s0.a t.s0.n t.s0.c, .slice t.s1.a t.s1.n t.s1.c, .slice t.s2.a t.s2.n t.s2.c, .slice t.s3.a t.s3.n t.s3.c, .slice t.s4.a t.s4.n t.s4.c, .slice t.s5.a t.s5.n t.s5.c, .slice t.s6.a t.s6.n t.s6.c, .slice t.s7.a t.s7.n t.s7.c, .slice t.s8.a t.s8.n t.s8.c, .slice t.s9.a t.s9.n t.s9.c, .slice t.s10.a t.s10.n t.s10.c, .slice t.s11.a t.s11.n t.s11.c] 26)).alloc (.cells #[.func (.func 112) #[] #[], .func (.func 113) #[] #[], .func (.func 114) #[] #[], .func (.func 115) #[] #[], .func (.func 116) #[] #[], .func (.func 117) #[] #[], .func (.func 118) #[] #[], .func (.func 119) #[] #[], .func (.func 120) #[] #[]] 97)) := ((Ext.refl _).alloc_ _).alloc_ _
 go_enter Tryz.func63, Tryz.ntmps63
 go_wp2_with fail
 go_loopw [7] (fun i wr => ∃ (k : Nat), k ≤ 9 ∧ i = .int .i64 k ∧ Hid (checkNo T = chkL (k : Int) ((rulesL T).drop k)) ∧ Hid (∀ j (hj : j < (rulesL T).length), j < k → (rulesL T)[j] = true) ∧
  Ext ((w.alloc (.cells #[.slice t.s0.a t.s0.n t.s0.c, .slice t.s1.a t.s1.n t.s1.c, .slice t.s2.a t.s2.n t.s2.c, .slice t.s3.a t.s3.n t.s3.c, .slice t.s4.a t.s4.n t.s4.c, .slice t.s5.a t.s5.n t.s5.c, .slice t.s6.a t.s6.n t.s6.c, .slice t.s7.a t.s7.n t.s7.c, .slice t.s8.a t.s8.n t.s8.c, .slice t.s9.a t.s9.n t.s9.c, .slice t.s10.a t.s10.n t.s10.c, .slice t.s11.a t.s11.n t.s11.c] 26)).alloc (.cells #[.func (.func 112) #[] #[], .func (.func 113) #[] #[], .func (.func 114) #[] #[], .func (.func 115) #[] #[], .func (.func 116) #[] #[], .func (.func 117) #[] #[], .func (.func 118) #[] #[], .func (.func 119) #[] #[], .func (.func 120) #[] #[]] 97)) wr) (fun i _ => 9 - (intOf i).toNat)
 case atStart => exact ⟨0, by omega, rfl, HB, fun j _ h => absurd h (by omega), Ext.refl _⟩
 case round =>
  obtain ⟨k, hk, rfl, HR, HP, hbr⟩ := hrel
  have hb0r := hbm.trans' hbr
  have hbx := ext2_a hbr
  have hbf := ext2_b hbr
  have hzx : w.heap.size + 1 < wr.heap.size := by have := hbr.b.size; simp at this; omega
  have HT := Lib.hid (ht.ext_ hb0r)
  clear HB
  match k, hk with
  | 0, _ =>
   have HS := hid_trans HR (show _ = (if rowsB T = true then chkL ((1 : Nat) : Int) ((rulesL T).drop 1) else (1 : Int)) from rfl)
   have HP2 : Hid (∀ b, rowsB T = b → b = true → ∀ j (hj : j < (rulesL T).length), j < 1 → (rulesL T)[j] = true) := fun b hb hbt j hj hlt => by
    by_cases h : j < 0
    ·exact HP.out j hj h
    ·obtain rfl : j = 0 := by omega
     exact hb.trans hbt
   clear HR
   go_wp2_with fail
   refine (rows_spec _ T _ HT.out).mono ?_
   rintro e w3 ⟨rfl, hb3⟩
   cases hv : rowsB T
   ·have HF := hid_trans HS (if_neg (by rw [hv]; simp))
    clear HS hv HP2
    go_wp2_with fail
    go_ret
    exact ⟨ret_int (by rw [HF.out]), hb0r.trans' hb3⟩
   ·have HF := hid_trans HS (if_pos hv)
    have HQ := Lib.hid (HP2.out true hv rfl)
    clear HS hv HP2
    go_wp2_with fail
    go_roundw
    case rel => exact ⟨1, by omega, by go_num, HF, HQ, hbr.trans' hb3⟩
    case measure => simp [intOf]
  | 1, _ =>
   have HS := hid_trans HR (show _ = (if shapeB T = true then chkL ((2 : Nat) : Int) ((rulesL T).drop 2) else (2 : Int)) from rfl)
   have HP2 : Hid (∀ b, shapeB T = b → b = true → ∀ j (hj : j < (rulesL T).length), j < 2 → (rulesL T)[j] = true) := fun b hb hbt j hj hlt => by
    by_cases h : j < 1
    ·exact HP.out j hj h
    ·obtain rfl : j = 1 := by omega
     exact hb.trans hbt
   clear HR
   go_wp2_with fail
   refine (shape_spec _ T _ HT.out).mono ?_
   rintro e w3 ⟨rfl, hb3⟩
   cases hv : shapeB T
   ·have HF := hid_trans HS (if_neg (by rw [hv]; simp))
    clear HS hv HP2
    go_wp2_with fail
    go_ret
    exact ⟨ret_int (by rw [HF.out]), hb0r.trans' hb3⟩
   ·have HF := hid_trans HS (if_pos hv)
    have HQ := Lib.hid (HP2.out true hv rfl)
    clear HS hv HP2
    go_wp2_with fail
    go_roundw
    case rel => exact ⟨2, by omega, by go_num, HF, HQ, hbr.trans' hb3⟩
    case measure => simp [intOf]
  | 2, _ =>
   have HS := hid_trans HR (show _ = (if valuesB T = true then chkL ((3 : Nat) : Int) ((rulesL T).drop 3) else (3 : Int)) from rfl)
   have HP2 : Hid (∀ b, valuesB T = b → b = true → ∀ j (hj : j < (rulesL T).length), j < 3 → (rulesL T)[j] = true) := fun b hb hbt j hj hlt => by
    by_cases h : j < 2
    ·exact HP.out j hj h
    ·obtain rfl : j = 2 := by omega
     exact hb.trans hbt
   clear HR
   go_wp2_with fail
   refine (values_spec _ T _ HT.out).mono ?_
   rintro e w3 ⟨rfl, hb3⟩
   cases hv : valuesB T
   ·have HF := hid_trans HS (if_neg (by rw [hv]; simp))
    clear HS hv HP2
    go_wp2_with fail
    go_ret
    exact ⟨ret_int (by rw [HF.out]), hb0r.trans' hb3⟩
   ·have HF := hid_trans HS (if_pos hv)
    have HQ := Lib.hid (HP2.out true hv rfl)
    clear HS hv HP2
    go_wp2_with fail
    go_roundw
    case rel => exact ⟨3, by omega, by go_num, HF, HQ, hbr.trans' hb3⟩
    case measure => simp [intOf]
  | 3, _ =>
   have HS := hid_trans HR (show _ = (if targetsB T = true then chkL ((4 : Nat) : Int) ((rulesL T).drop 4) else (4 : Int)) from rfl)
   have HP2 : Hid (∀ b, targetsB T = b → b = true → ∀ j (hj : j < (rulesL T).length), j < 4 → (rulesL T)[j] = true) := fun b hb hbt j hj hlt => by
    by_cases h : j < 3
    ·exact HP.out j hj h
    ·obtain rfl : j = 3 := by omega
     exact hb.trans hbt
   clear HR
   go_wp2_with fail
   refine (targets_spec _ T _ HT.out).mono ?_
   rintro e w3 ⟨rfl, hb3⟩
   cases hv : targetsB T
   ·have HF := hid_trans HS (if_neg (by rw [hv]; simp))
    clear HS hv HP2
    go_wp2_with fail
    go_ret
    exact ⟨ret_int (by rw [HF.out]), hb0r.trans' hb3⟩
   ·have HF := hid_trans HS (if_pos hv)
    have HQ := Lib.hid (HP2.out true hv rfl)
    clear HS hv HP2
    go_wp2_with fail
    go_roundw
    case rel => exact ⟨4, by omega, by go_num, HF, HQ, hbr.trans' hb3⟩
    case measure => simp [intOf]
  | 4, _ =>
   have S := Lib.hid (srt_of (T := T) (HP.out 0 (by rw [HLEN.out]; omega) (by omega)) (HP.out 1 (by rw [HLEN.out]; omega) (by omega)))
   have HS := hid_trans HR (show _ = (if mappedB T = true then chkL ((5 : Nat) : Int) ((rulesL T).drop 5) else (5 : Int)) from rfl)
   have HP2 : Hid (∀ b, mappedB T = b → b = true → ∀ j (hj : j < (rulesL T).length), j < 5 → (rulesL T)[j] = true) := fun b hb hbt j hj hlt => by
    by_cases h : j < 4
    ·exact HP.out j hj h
    ·obtain rfl : j = 4 := by omega
     exact hb.trans hbt
   clear HR
   go_wp2_with fail
   refine (mapped_spec _ T _ HT.out S.out.1 S.out.2).mono ?_
   rintro e w3 ⟨rfl, hb3⟩
   cases hv : mappedB T
   ·have HF := hid_trans HS (if_neg (by rw [hv]; simp))
    clear HS hv HP2
    go_wp2_with fail
    go_ret
    exact ⟨ret_int (by rw [HF.out]), hb0r.trans' hb3⟩
   ·have HF := hid_trans HS (if_pos hv)
    have HQ := Lib.hid (HP2.out true hv rfl)
    clear HS hv HP2
    go_wp2_with fail
    go_roundw
    case rel => exact ⟨5, by omega, by go_num, HF, HQ, hbr.trans' hb3⟩
    case measure => simp [intOf]
  | 5, _ =>
   have S := Lib.hid (srt_of (T := T) (HP.out 0 (by rw [HLEN.out]; omega) (by omega)) (HP.out 1 (by rw [HLEN.out]; omega) (by omega)))
   have N := Lib.hid (nonEs_of (T := T) (HP.out 3 (by rw [HLEN.out]; omega) (by omega)))
   have HS := hid_trans HR (show _ = (if decomposedB T = true then chkL ((6 : Nat) : Int) ((rulesL T).drop 6) else (6 : Int)) from rfl)
   have HP2 : Hid (∀ b, decomposedB T = b → b = true → ∀ j (hj : j < (rulesL T).length), j < 6 → (rulesL T)[j] = true) := fun b hb hbt j hj hlt => by
    by_cases h : j < 5
    ·exact HP.out j hj h
    ·obtain rfl : j = 5 := by omega
     exact hb.trans hbt
   clear HR
   go_wp2_with fail
   refine (decomposed_spec _ T _ HT.out S.out.1 N.out).mono ?_
   rintro e w3 ⟨rfl, hb3⟩
   cases hv : decomposedB T
   ·have HF := hid_trans HS (if_neg (by rw [hv]; simp))
    clear HS hv HP2
    go_wp2_with fail
    go_ret
    exact ⟨ret_int (by rw [HF.out]), hb0r.trans' hb3⟩
   ·have HF := hid_trans HS (if_pos hv)
    have HQ := Lib.hid (HP2.out true hv rfl)
    clear HS hv HP2
    go_wp2_with fail
    go_roundw
    case rel => exact ⟨6, by omega, by go_num, HF, HQ, hbr.trans' hb3⟩
    case measure => simp [intOf]
  | 6, _ =>
   have S := Lib.hid (srt_of (T := T) (HP.out 0 (by rw [HLEN.out]; omega) (by omega)) (HP.out 1 (by rw [HLEN.out]; omega) (by omega)))
   have N := Lib.hid (nonEs_of (T := T) (HP.out 3 (by rw [HLEN.out]; omega) (by omega)))
   have HS := hid_trans HR (show _ = (if excludedB T = true then chkL ((7 : Nat) : Int) ((rulesL T).drop 7) else (7 : Int)) from rfl)
   have HP2 : Hid (∀ b, excludedB T = b → b = true → ∀ j (hj : j < (rulesL T).length), j < 7 → (rulesL T)[j] = true) := fun b hb hbt j hj hlt => by
    by_cases h : j < 6
    ·exact HP.out j hj h
    ·obtain rfl : j = 6 := by omega
     exact hb.trans hbt
   clear HR
   go_wp2_with fail
   refine (excluded_spec _ T _ HT.out S.out.1 N.out).mono ?_
   rintro e w3 ⟨rfl, hb3⟩
   cases hv : excludedB T
   ·have HF := hid_trans HS (if_neg (by rw [hv]; simp))
    clear HS hv HP2
    go_wp2_with fail
    go_ret
    exact ⟨ret_int (by rw [HF.out]), hb0r.trans' hb3⟩
   ·have HF := hid_trans HS (if_pos hv)
    have HQ := Lib.hid (HP2.out true hv rfl)
    clear HS hv HP2
    go_wp2_with fail
    go_roundw
    case rel => exact ⟨7, by omega, by go_num, HF, HQ, hbr.trans' hb3⟩
    case measure => simp [intOf]
  | 7, _ =>
   have S := Lib.hid (srt_of (T := T) (HP.out 0 (by rw [HLEN.out]; omega) (by omega)) (HP.out 1 (by rw [HLEN.out]; omega) (by omega)))
   have N := Lib.hid (nonEs_of (T := T) (HP.out 3 (by rw [HLEN.out]; omega) (by omega)))
   have F := Lib.hid (finD_of (T := T) (HP.out 5 (by rw [HLEN.out]; omega) (by omega)))
   have HS := hid_trans HR (show _ = (if uniqueB T = true then chkL ((8 : Nat) : Int) ((rulesL T).drop 8) else (8 : Int)) from rfl)
   have HP2 : Hid (∀ b, uniqueB T = b → b = true → ∀ j (hj : j < (rulesL T).length), j < 8 → (rulesL T)[j] = true) := fun b hb hbt j hj hlt => by
    by_cases h : j < 7
    ·exact HP.out j hj h
    ·obtain rfl : j = 7 := by omega
     exact hb.trans hbt
   clear HR
   go_wp2_with fail
   refine (unique_spec _ T _ HT.out S.out.1 N.out F.out).mono ?_
   rintro e w3 ⟨rfl, hb3⟩
   cases hv : uniqueB T
   ·have HF := hid_trans HS (if_neg (by rw [hv]; simp))
    clear HS hv HP2
    go_wp2_with fail
    go_ret
    exact ⟨ret_int (by rw [HF.out]), hb0r.trans' hb3⟩
   ·have HF := hid_trans HS (if_pos hv)
    have HQ := Lib.hid (HP2.out true hv rfl)
    clear HS hv HP2
    go_wp2_with fail
    go_roundw
    case rel => exact ⟨8, by omega, by go_num, HF, HQ, hbr.trans' hb3⟩
    case measure => simp [intOf]
  | 8, _ =>
   have S := Lib.hid (srt_of (T := T) (HP.out 0 (by rw [HLEN.out]; omega) (by omega)) (HP.out 1 (by rw [HLEN.out]; omega) (by omega)))
   have N := Lib.hid (nonEs_of (T := T) (HP.out 3 (by rw [HLEN.out]; omega) (by omega)))
   have F := Lib.hid (finD_of (T := T) (HP.out 5 (by rw [HLEN.out]; omega) (by omega)))
   have HS := hid_trans HR (show _ = (if prototypedB T = true then chkL ((9 : Nat) : Int) ((rulesL T).drop 9) else (9 : Int)) from rfl)
   have HP2 : Hid (∀ b, prototypedB T = b → b = true → ∀ j (hj : j < (rulesL T).length), j < 9 → (rulesL T)[j] = true) := fun b hb hbt j hj hlt => by
    by_cases h : j < 8
    ·exact HP.out j hj h
    ·obtain rfl : j = 8 := by omega
     exact hb.trans hbt
   clear HR
   go_wp2_with fail
   refine (prototyped_spec _ T _ HT.out S.out.1 N.out).mono ?_
   rintro e w3 ⟨rfl, hb3⟩
   cases hv : prototypedB T
   ·have HF := hid_trans HS (if_neg (by rw [hv]; simp))
    clear HS hv HP2
    go_wp2_with fail
    go_ret
    exact ⟨ret_int (by rw [HF.out]), hb0r.trans' hb3⟩
   ·have HF := hid_trans HS (if_pos hv)
    have HQ := Lib.hid (HP2.out true hv rfl)
    clear HS hv HP2
    go_wp2_with fail
    go_roundw
    case rel => exact ⟨9, by omega, by go_num, HF, HQ, hbr.trans' hb3⟩
    case measure => simp [intOf]
  | 9, _ =>
   have HF := hid_trans HR (show _ = (0 : Int) from rfl)
   clear HR
   go_wp2_with fail
   go_ret
   exact ⟨ret_int (by rw [HF.out]), hb0r⟩
end Go.Proofs.YtbdabjhankgcmaaGreatDoor
