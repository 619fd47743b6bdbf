/- Walks: context.permitted, Permitted, Check. -/
import Derived.Test.YtgfdecfcbnnemaaDoorCx
namespace Go.Proofs.YtgfdecfcbnnemaaDoor
open Go.RowKit

set_option maxHeartbeats 1600000 in
set_option maxRecDepth 100000 in
theorem ctxperm1_spec (t : TV) (T : Tbl) (c : Int) (bk : Nat) (w : World) (ht : TblS w t T) (hs : Srt T) (hb : ∀ k : Nat, w.cell? ⟨bk, k, none⟩ = t.v.cells[k]?) :
    Calls Tryd.prog 53 (#[.int .i64 c] ++ #[.pointer (some ⟨bk, 0, none⟩)]) w fun e w' => e = .returned (.bool (japB T c)) ∧ Ext w w' := by
  have rT : ∀ k : Nat, w.cell? ⟨bk, k, none⟩ = (#[.slice t.s0.a t.s0.n t.s0.c, .slice t.s1.a t.s1.n t.s1.c, .slice t.s2.a t.s2.n t.s2.c, .slice t.s3.a t.s3.n t.s3.c, .slice t.s4.a t.s4.n t.s4.c, .slice t.s5.a t.s5.n t.s5.c, .slice t.s6.a t.s6.n t.s6.c, .slice t.s7.a t.s7.n t.s7.c, .slice t.s8.a t.s8.n t.s8.c, .slice t.s9.a t.s9.n t.s9.c, .slice t.s10.a t.s10.n t.s10.c, .slice t.s11.a t.s11.n t.s11.c] : Array Value)[k]? := hb
  go_enter Tryd.func53, Tryd.ntmps53
  go_wp2_with (go_at_call 54; refine (japanese_spec t T c _ ht hs).mono ?_; rintro e w1 ⟨rfl, hb1⟩)
  go_ret
  exact ⟨rfl, hb1⟩

set_option maxHeartbeats 3200000 in
set_option maxRecDepth 100000 in
theorem cper_spec (t : TV) (T : Tbl) (l : List Int) (A : Option Addr) (n c : Nat) (i : Nat) (w : World) (ht : TblS w t T) (hs : Srt T) (h : IntS w ⟨A, n, c⟩ l) (hi : i < l.length) :
    Calls Tryd.prog 42 #[t.v, .slice A n c, .int .i64 i] w fun e w' => e = .returned (.bool (cper T l i)) ∧ Ext w w' := by
  obtain ⟨hn, _, _⟩ := h.len
  subst hn
  have HT := Lib.hid ht
  have HI := Lib.hid h
  have hba : Ext w (w.alloc (.cells #[.slice t.s0.a t.s0.n t.s0.c, .slice t.s1.a t.s1.n t.s1.c, .slice t.s2.a t.s2.n t.s2.c, .slice t.s3.a t.s3.n t.s3.c, .slice t.s4.a t.s4.n t.s4.c, .slice t.s5.a t.s5.n t.s5.c, .slice t.s6.a t.s6.n t.s6.c, .slice t.s7.a t.s7.n t.s7.c, .slice t.s8.a t.s8.n t.s8.c, .slice t.s9.a t.s9.n t.s9.c, .slice t.s10.a t.s10.n t.s10.c, .slice t.s11.a t.s11.n t.s11.c] 26)) := (Ext.refl _).alloc_ _
  have HD : Hid (l.getD i 0 = l[i]) := getD_lt l i 0 hi
  have HATT : Hid (∀ j, j < l.length → ∃ y, l.getD j 0 = y ∧ ∃ b o, A = some ⟨b, o, none⟩ ∧ (w.alloc (.cells #[.slice t.s0.a t.s0.n t.s0.c, .slice t.s1.a t.s1.n t.s1.c, .slice t.s2.a t.s2.n t.s2.c, .slice t.s3.a t.s3.n t.s3.c, .slice t.s4.a t.s4.n t.s4.c, .slice t.s5.a t.s5.n t.s5.c, .slice t.s6.a t.s6.n t.s6.c, .slice t.s7.a t.s7.n t.s7.c, .slice t.s8.a t.s8.n t.s8.c, .slice t.s9.a t.s9.n t.s9.c, .slice t.s10.a t.s10.n t.s10.c, .slice t.s11.a t.s11.n t.s11.c] 26)).cell? ⟨b, o + j, none⟩ = some (.int .i64 y)) := Lib.hid (fun j hj => by
      obtain ⟨b', o', hbo, h2⟩ := (HI.out.ext hba).at_ (i := j) hj
      exact ⟨_, getD_lt l j 0 hj, b', o', hbo, h2⟩)
  obtain ⟨b, o, ha, h1⟩ := (HI.out.ext hba).at_ hi
  subst ha
  have HAT : Hid (∀ j, j < l.length → ∃ y, l.getD j 0 = y ∧ (w.alloc (.cells #[.slice t.s0.a t.s0.n t.s0.c, .slice t.s1.a t.s1.n t.s1.c, .slice t.s2.a t.s2.n t.s2.c, .slice t.s3.a t.s3.n t.s3.c, .slice t.s4.a t.s4.n t.s4.c, .slice t.s5.a t.s5.n t.s5.c, .slice t.s6.a t.s6.n t.s6.c, .slice t.s7.a t.s7.n t.s7.c, .slice t.s8.a t.s8.n t.s8.c, .slice t.s9.a t.s9.n t.s9.c, .slice t.s10.a t.s10.n t.s10.c, .slice t.s11.a t.s11.n t.s11.c] 26)).cell? ⟨b, o + j, none⟩ = some (.int .i64 y)) := Lib.hid (fun j hj => by
      obtain ⟨y, h1, b', o', hbo, h2⟩ := HATT.out j hj
      injection hbo with hbo
      injection hbo with e1 e2
      subst e1 e2
      exact ⟨y, h1, h2⟩)
  clear HATT
  generalize l[i] = x at *
  have hk0 : (0 : Int) ≤ (i : Int) := Int.natCast_nonneg _
  have hk1 : (i : Int) < (l.length : Int) := by omega
  have HF : Hid (cper T l i = if (x == 183) = true then dotB l i else if (x == 885) = true then hasB T l ((i : Int) + 1) 4 else if (x == 1523 || x == 1524) = true then hasB T l ((i : Int) - 1) 11
      else if (x == 12539) = true then l.any (japB T) else if arabB x = true then !l.any extdB else if extdB x = true then !l.any arabB else true) := Lib.hid (by unfold cper; rw [HD.out])
  clear HD
  by_cases x1 : x = 183
  · subst x1
    have HG : Hid (cper T l i = dotB l i) := HF
    clear HF
    by_cases hr : 0 < i ∧ i + 1 < l.length
    · obtain ⟨y, hy, hcy⟩ := HAT.out (i - 1) (by omega)
      obtain ⟨z, hz, hcz⟩ := HAT.out (i + 1) hr.2
      obtain ⟨k, hk⟩ : ∃ k, i = k + 1 := ⟨i - 1, by omega⟩
      have hsub : (i : Int) - 1 = (k : Int) := by omega
      have hki : i - 1 = k := by omega
      rw [hki] at hcy
      have hkk0 : (0 : Int) ≤ (k : Int) := Int.natCast_nonneg _
      have hkk1 : (k : Int) < (l.length : Int) := by omega
      have hkk2 : (0 : Int) ≤ (i : Int) + 1 := by omega
      have hkk3 : (i : Int) + 1 < (l.length : Int) := by omega
      have hd2 : decide (0 < i) = true := by rw [decide_eq_true_eq]; omega
      have hd3 : decide ((i : Int) < (l.length : Int) - 1) = true := by rw [decide_eq_true_eq]; omega
      obtain ⟨b1, hb1⟩ : ∃ b, (y == 108) = b := ⟨_, rfl⟩
      obtain ⟨b2, hb2⟩ : ∃ b, (z == 108) = b := ⟨_, rfl⟩
      have HG2 : Hid (cper T l i = (b1 && b2)) := Lib.hid (by rw [HG.out]; unfold dotB; rw [hki] at hy ⊢; rw [hy, hz, hb1, hb2]; simp [hr.1, hr.2])
      clear HG hr hy hz hk hki HAT
      cases b1 <;> cases b2
      all_goals
        go_enter Tryd.func42, Tryd.ntmps42
        go_wp2_with fail
        go_ret
        exact ⟨ret_bool HG2.out.symm, hba⟩
    · have HG2 : Hid (cper T l i = false) := Lib.hid (by
        rw [HG.out]; unfold dotB
        by_cases h0 : 0 < i
        · rw [decide_eq_false (p := i + 1 < l.length) (by omega)]; simp
        · rw [decide_eq_false h0]; simp)
      clear HG HAT
      by_cases h0 : 0 < i
      · have hd2 : decide (0 < i) = true := by rw [decide_eq_true_eq]; omega
        have hd3 : decide ((i : Int) < (l.length : Int) - 1) = false := by rw [decide_eq_false_iff_not]; omega
        clear hr
        go_enter Tryd.func42, Tryd.ntmps42
        go_wp2_with fail
        go_ret
        exact ⟨ret_bool HG2.out.symm, hba⟩
      · have hd2 : decide (0 < i) = false := by rw [decide_eq_false_iff_not]; omega
        clear hr
        go_enter Tryd.func42, Tryd.ntmps42
        go_wp2_with fail
        go_ret
        exact ⟨ret_bool HG2.out.symm, hba⟩
  by_cases x2 : x = 885
  · subst x2
    have HG : Hid (cper T l i = hasB T l ((i : Int) + 1) 4) := HF
    clear HF HAT x1
    go_enter Tryd.func42, Tryd.ntmps42
    go_wp2_with (go_at_call 51; refine (has_spec t T l _ _ c _ _ _ (HT.out.ext_ hba) hs (HI.out.ext hba)).mono ?_; rintro e w1 ⟨rfl, hb1⟩)
    go_ret
    exact ⟨ret_bool HG.out.symm, hba.trans' hb1⟩
  by_cases x3 : x = 1523 ∨ x = 1524
  · have HG : Hid (cper T l i = hasB T l ((i : Int) - 1) 11) := Lib.hid (by rw [HF.out]; rcases x3 with rfl | rfl <;> rfl)
    clear HF HAT x1 x2
    rcases x3 with rfl | rfl
    all_goals
      go_enter Tryd.func42, Tryd.ntmps42
      go_wp2_with (go_at_call 51; refine (has_spec t T l _ _ c _ _ _ (HT.out.ext_ hba) hs (HI.out.ext hba)).mono ?_; rintro e w1 ⟨rfl, hb1⟩)
      go_ret
      exact ⟨ret_bool HG.out.symm, hba.trans' hb1⟩
  by_cases x4 : x = 12539
  · subst x4
    have HG : Hid (cper T l i = l.any (japB T)) := HF
    clear HF HAT x1 x2 x3
    go_enter Tryd.func42, Tryd.ntmps42
    go_wp2_with (go_at_call 52; refine (containsFunc_spec 53 #[.pointer (some ⟨w.heap.size, 0, none⟩)] (japB T) l _ _ _ _ (HI.out.ext hba) Tryd.call53 (fun x _ w' hw' => ctxperm1_spec t T x _ w' (HT.out.ext_ (hba.trans' hw')) hs (box_at hw'))).mono ?_; rintro e w1 ⟨rfl, hb1⟩)
    go_ret
    exact ⟨ret_bool HG.out.symm, hba.trans' hb1⟩
  have e1 : (x == 183) = false := by rw [beq_eq_false_iff_ne]; exact x1
  have e2 : (x == 885) = false := by rw [beq_eq_false_iff_ne]; exact x2
  have e3 : (x == 1523) = false := by rw [beq_eq_false_iff_ne]; exact fun h => x3 (.inl h)
  have e4 : (x == 1524) = false := by rw [beq_eq_false_iff_ne]; exact fun h => x3 (.inr h)
  have e5 : (x == 12539) = false := by rw [beq_eq_false_iff_ne]; exact x4
  have HG : Hid (cper T l i = if arabB x = true then !l.any extdB else if extdB x = true then !l.any arabB else true) := Lib.hid (by rw [HF.out, e1, e2, e3, e4, e5]; rfl)
  clear HF x1 x2 x3 x4 HAT
  cases ha : arabB x
  · cases he : extdB x
    · have HG2 : Hid (cper T l i = true) := Lib.hid (by rw [HG.out, ha, he]; rfl)
      have HA := Lib.hid ha
      have HE := Lib.hid he
      clear ha he HG
      go_enter Tryd.func42, Tryd.ntmps42
      go_wp2_with (first
        | (go_at_call 40; refine (arabic_spec _ _).mono ?_; rintro e w1 ⟨rfl, rfl⟩; rw [HA.out])
        | (go_at_call 41; refine (extended_spec _ _).mono ?_; rintro e w1 ⟨rfl, rfl⟩; rw [HE.out]))
      go_ret
      exact ⟨ret_bool HG2.out.symm, hba⟩
    · have HG2 : Hid (cper T l i = !l.any arabB) := Lib.hid (by rw [HG.out, ha, he]; rfl)
      have HA := Lib.hid ha
      have HE := Lib.hid he
      clear ha he HG
      go_enter Tryd.func42, Tryd.ntmps42
      go_wp2_with (first
        | (go_at_call 40; refine (arabic_spec _ _).mono ?_; rintro e w1 ⟨rfl, rfl⟩; rw [HA.out])
        | (go_at_call 41; refine (extended_spec _ _).mono ?_; rintro e w1 ⟨rfl, rfl⟩; rw [HE.out])
        | (go_at_call 52; refine (containsFunc_spec 40 #[] arabB l _ _ _ _ (HI.out.ext hba) Tryd.call40 (fun x _ w' hw' => (arabic_spec x w').mono (by rintro e w1 ⟨rfl, rfl⟩; exact ⟨rfl, Ext.refl _⟩))).mono ?_; rintro e w1 ⟨rfl, hb1⟩))
      go_ret
      exact ⟨ret_bool HG2.out.symm, hba.trans' hb1⟩
  · have HG2 : Hid (cper T l i = !l.any extdB) := Lib.hid (by rw [HG.out, ha]; rfl)
    have HA := Lib.hid ha
    clear ha HG
    go_enter Tryd.func42, Tryd.ntmps42
    go_wp2_with (first
      | (go_at_call 40; refine (arabic_spec _ _).mono ?_; rintro e w1 ⟨rfl, rfl⟩; rw [HA.out])
      | (go_at_call 52; refine (containsFunc_spec 41 #[] extdB l _ _ _ _ (HI.out.ext hba) Tryd.call41 (fun x _ w' hw' => (extended_spec x w').mono (by rintro e w1 ⟨rfl, rfl⟩; exact ⟨rfl, Ext.refl _⟩))).mono ?_; rintro e w1 ⟨rfl, hb1⟩))
    go_ret
    exact ⟨ret_bool HG2.out.symm, hba.trans' hb1⟩
end Go.Proofs.YtgfdecfcbnnemaaDoor
