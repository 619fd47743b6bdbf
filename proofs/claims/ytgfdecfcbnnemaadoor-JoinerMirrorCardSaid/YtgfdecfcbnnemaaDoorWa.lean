/- Walks: the small functions of utf and table, and ranges.Check. -/
import Derived.Test.YtgfdecfcbnnemaaDoorMem
import Derived.Outline
namespace Go.Proofs.YtgfdecfcbnnemaaDoor
open Go.RowKit

theorem scalar_spec (c : Int) (w : World) : Calls Tryd.prog 73 #[.int .i64 c] w fun e w' => e = .returned (.bool (scalarB c)) ∧ w = w' := by
  go_enter Tryd.func73, Tryd.ntmps73
  go_wp2
  all_goals (go_ret; refine ⟨ret_bool ?_, rfl⟩; (first | (simp [scalarB, *]; done) | (rw [Bool.eq_iff_iff]; simp [scalarB]; omega) | (simp [scalarB, *]; omega)))

theorem length_spec (c : Int) (w : World) : Calls Tryd.prog 59 #[.int .i64 c] w fun e w' => e = .returned (.int .i64 (utfLen c)) ∧ w = w' := by
  cases hs : scalarB c
  · have H := Lib.hid hs
    clear hs
    go_enter Tryd.func59, Tryd.ntmps59
    go_wp2_with (go_at_call 73; refine (scalar_spec _ _).mono ?_; rintro e w' ⟨rfl, rfl⟩; rw [H.out])
    all_goals (go_ret; refine ⟨ret_int ?_, rfl⟩; simp [utfLen, H.out])
  · have H := Lib.hid hs
    clear hs
    go_enter Tryd.func59, Tryd.ntmps59
    go_wp2_with (go_at_call 73; refine (scalar_spec _ _).mono ?_; rintro e w' ⟨rfl, rfl⟩; rw [H.out])
    all_goals (go_ret; refine ⟨ret_int ?_, rfl⟩; simp [utfLen, H.out]; try omega)

theorem syllable_spec (c : Int) (w : World) : Calls Tryd.prog 84 #[.int .i64 c] w fun e w' => e = .returned (.bool (syllB c)) ∧ w = w' := by
  go_enter Tryd.func84, Tryd.ntmps84
  go_wp2
  all_goals (go_ret; refine ⟨ret_bool ?_, rfl⟩; (first | (simp [syllB, *]; done) | (rw [Bool.eq_iff_iff]; simp [syllB]; omega) | (simp [syllB, *]; omega)))

theorem jamo_spec (c : Int) (w : World) : Calls Tryd.prog 85 #[.int .i64 c] w fun e w' => e = .returned (.bool (jamoB c)) ∧ w = w' := by
  go_enter Tryd.func85, Tryd.ntmps85
  go_wp2
  all_goals (go_ret; refine ⟨ret_bool ?_, rfl⟩; (first | (simp [jamoB, *]; done) | (rw [Bool.eq_iff_iff]; simp [jamoB]; omega) | (simp [jamoB, *]; omega)))

theorem surrogate_spec (c : Int) (w : World) : Calls Tryd.prog 97 #[.int .i64 c] w fun e w' => e = .returned (.bool (surB c)) ∧ w = w' := by
  go_enter Tryd.func97, Tryd.ntmps97
  go_wp2
  all_goals (go_ret; refine ⟨ret_bool ?_, rfl⟩; (first | (simp [surB, *]; done) | (rw [Bool.eq_iff_iff]; simp [surB]; omega) | (simp [surB, *]; omega)))

theorem name_spec (c : Int) (w : World) : Calls Tryd.prog 81 #[.int .i64 c] w fun e w' => e = .returned (.bool (nameB c)) ∧ w = w' := by
  go_enter Tryd.func81, Tryd.ntmps81
  go_wp2
  all_goals (go_ret; refine ⟨ret_bool ?_, rfl⟩; (first | (simp [nameB, *]; done) | (rw [Bool.eq_iff_iff]; simp [nameB]; omega) | (simp [nameB, *]; omega)))

theorem reserved_spec (c : Int) (w : World) : Calls Tryd.prog 90 #[.int .i64 c] w fun e w' => e = .returned (.bool (resB c)) ∧ w = w' := by
  have H : Hid (resB c = (decide (0 ≤ c) && decide (c ≤ 127) || surB c || syllB c || jamoB c)) := rfl
  go_enter Tryd.func90, Tryd.ntmps90
  go_wp2_with (first
    | (go_at_call 97; refine (surrogate_spec _ _).mono ?_; rintro e w' ⟨rfl, rfl⟩; cases h1 : surB c)
    | (go_at_call 84; refine (syllable_spec _ _).mono ?_; rintro e w' ⟨rfl, rfl⟩; cases h2 : syllB c)
    | (go_at_call 85; refine (jamo_spec _ _).mono ?_; rintro e w' ⟨rfl, rfl⟩; cases h3 : jamoB c))
  all_goals (go_ret; refine ⟨ret_bool ?_, rfl⟩; rw [H.out]; (first | (simp [*]; done) | (simp [*]; omega)))

theorem point_spec (last c : Int) (w : World) : Calls Tryd.prog 80 #[.int .i64 last, .int .i64 c] w fun e w' => e = .returned (.bool (pointB last c)) ∧ w = w' := by
  have H : Hid (pointB last c = (decide (last < c) && decide (c ≤ 1114111) && !resB c)) := rfl
  go_enter Tryd.func80, Tryd.ntmps80
  go_wp2_with (go_at_call 90; refine (reserved_spec _ _).mono ?_; rintro e w' ⟨rfl, rfl⟩; cases h1 : resB c)
  all_goals (go_ret; refine ⟨ret_bool ?_, rfl⟩; rw [H.out]; (first | (simp [*]; done) | (simp [*]; omega)))

set_option maxHeartbeats 400000 in
set_option maxRecDepth 100000 in
theorem ranges_check (A : Option Addr) (n c : Nat) (l : List Sp) (lo hi : Int) (w : World) (h : SpanS w ⟨A, n, c⟩ l) :
    Calls Tryd.prog 78 #[.slice A n c, .int .i64 lo, .int .i64 hi] w fun e w' => e = .returned (.bool (rangeOk lo hi l)) ∧ Ext w w' := by
  obtain ⟨hn, hnc, hcm⟩ := h.len
  subst hn
  go_enter Tryd.func78, Tryd.ntmps78
  go_wp2
  go_loopw [7, 12] (fun la i wr => ∃ (k : Nat) (last : Int), k ≤ l.length ∧ i = .int .i64 k ∧ la = .int .i64 last ∧ Hid (rangeOk lo hi l = (chain lo hi last (l.drop k) && decide ((l.length : Int) ≤ 256))) ∧ Ext w wr) (fun _ i _ => l.length - (intOf i).toNat)
  case atStart => exact ⟨0, -1, Nat.zero_le _, rfl, rfl, rfl, Ext.refl _⟩
  case round =>
    obtain ⟨k, last, hk, rfl, rfl, HR, hb⟩ := hrel
    by_cases hlt : k < l.length
    · obtain ⟨b, o, ha, h0, h1, h2⟩ := (SpanS.ext h hb).at_ hlt
      subst ha
      have HD : Hid (l.drop k = l[k] :: l.drop (k + 1)) := drop_at l k hlt
      generalize l[k] = x at *
      obtain ⟨xl, xh, xv⟩ := x
      simp only at h0 h1 h2
      go_wp2
      all_goals first
        | (go_ret; exact ⟨ret_bool (by rw [HR.out, HD.out, chain_no (by simp only; omega)]; rfl), hb.alloc_ _⟩)
        | (go_roundw
           case rel => exact ⟨k + 1, xh, by omega, by go_num, rfl, hid_trans HR (by rw [HD.out, chain_yes (by simp only; omega)]), hb.alloc_ _⟩
           case measure => simp [intOf]; omega)
    · go_wp2
      go_ret
      exact ⟨ret_bool (by rw [HR.out, drop_all l k (by omega)]; simp [chain]), hb⟩

set_option maxHeartbeats 400000 in
set_option maxRecDepth 100000 in
theorem outside_spec (lo hi val : Int) (w : World) (hg : Glob w) :
    Calls Tryd.prog 79 #[.agg #[.int .i64 lo, .int .i64 hi, .int .i64 val]] w fun e w' => e = .returned (.bool (outsideB ⟨lo, hi, val⟩)) ∧ Ext w w' := by
  obtain ⟨A, n, c, hg0, hg1⟩ := hg
  have hg' := keep_cell (w' := w.alloc (.cells #[.int .i64 lo, .int .i64 hi, .int .i64 val] 51)) (ext_keep ((Ext.refl w).alloc_ _)) hg0
  have HB : Hid (outsideB ⟨lo, hi, val⟩ = outGo lo hi blocksL) := rfl
  have hl6 : blocksL.length = 6 := rfl
  generalize blocksL = l at *
  obtain ⟨hn, hnc, hcm⟩ := hg1.len
  subst hn
  have hl6' := Lib.hid hl6
  clear hl6
  go_enter Tryd.func79, Tryd.ntmps79
  go_wp2
  go_loopw [7] (fun i wr => ∃ (k : Nat), k ≤ l.length ∧ i = .int .i64 k ∧ Hid (outsideB ⟨lo, hi, val⟩ = outGo lo hi (l.drop k)) ∧ Ext (w.alloc (.cells #[.int .i64 lo, .int .i64 hi, .int .i64 val] 51)) wr) (fun i _ => l.length - (intOf i).toNat)
  case atStart => exact ⟨0, Nat.zero_le _, rfl, HB, Ext.refl _⟩
  case round =>
    obtain ⟨k, hk, rfl, HR, hb⟩ := hrel
    have hb0 : Ext w wr := ((Ext.refl w).alloc_ _).trans' hb
    obtain ⟨hc, hf⟩ := bcell hb
    by_cases hlt : k < l.length
    · obtain ⟨b, o, ha, h0, h1, h2⟩ := (SpanS.ext hg1 hb0).at_ hlt
      subst ha
      have HD : Hid (l.drop k = l[k] :: l.drop (k + 1)) := drop_at l k hlt
      generalize l[k] = x at *
      obtain ⟨xl, xh, xv⟩ := x
      simp only at h0 h1 h2
      have hz : w.heap.size < wr.heap.size := by have := hb.b.size; simp at this; omega
      go_wp2
      all_goals first
        | (go_ret; exact ⟨ret_bool (by rw [HR.out, HD.out, outGo_no (by simp only; omega)]), hb0.alloc_ _⟩)
        | (go_roundw
           case rel => exact ⟨k + 1, by omega, by go_num, hid_trans HR (by rw [HD.out, outGo_yes (by simp only; omega)]), hb.alloc_ _⟩
           case measure => simp [intOf]; omega)
    · go_wp2
      go_ret
      exact ⟨ret_bool (by rw [HR.out, drop_all l k (by omega)]; simp [outGo]), hb0⟩
end Go.Proofs.YtgfdecfcbnnemaaDoor
