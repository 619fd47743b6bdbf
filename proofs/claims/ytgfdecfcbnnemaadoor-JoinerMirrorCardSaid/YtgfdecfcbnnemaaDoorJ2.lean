/- Walks: joiner.permitted, Permitted, Check. -/
import Derived.Test.YtgfdecfcbnnemaaDoorJ
namespace Go.Proofs.YtgfdecfcbnnemaaDoor
open Go.RowKit

set_option maxHeartbeats 3200000 in
set_option maxRecDepth 100000 in
theorem jper_spec (t : TV) (T : Tbl) (l : List Int) (A : Option Addr) (n c : Nat) (i : Nat) (w : World) (ht : TblS w t T) (hs : Srt T) (h : IntS w ⟨A, n, c⟩ l) (hi : i < l.length) :
    Calls Tryd.prog 36 #[t.v, .slice A n c, .int .i64 i] w fun e w' => e = .returned (.bool (jper T l i)) ∧ Ext w w' := by
  obtain ⟨hn, _, _⟩ := h.len
  subst hn
  have HT := Lib.hid ht
  have HI := Lib.hid h
  obtain ⟨wb, hwb⟩ : ∃ wb, wb = (w.alloc (.cells #[.slice t.s0.a t.s0.n t.s0.c, .slice t.s1.a t.s1.n t.s1.c, .slice t.s2.a t.s2.n t.s2.c, .slice t.s3.a t.s3.n t.s3.c, .slice t.s4.a t.s4.n t.s4.c, .slice t.s5.a t.s5.n t.s5.c, .slice t.s6.a t.s6.n t.s6.c, .slice t.s7.a t.s7.n t.s7.c, .slice t.s8.a t.s8.n t.s8.c, .slice t.s9.a t.s9.n t.s9.c, .slice t.s10.a t.s10.n t.s10.c, .slice t.s11.a t.s11.n t.s11.c] 26)) := ⟨_, rfl⟩
  have hba : Ext w wb := by rw [hwb]; exact (Ext.refl _).alloc_ _
  have HD : Hid (l.getD i 0 = l[i]) := getD_lt l i 0 hi
  obtain ⟨b, o, ha, h1⟩ := (HI.out.ext hba).at_ hi
  subst ha
  have HN1 := Lib.hid (nextB_bd T l i hi false)
  have HN2 := Lib.hid (nextB_bd T l i hi true)
  generalize l[i] = x at *
  have HF : Hid (jper T l i = if (!(x == 8204) && !(x == 8205)) = true then true else if (decide (0 < i) && clsT T (l.getD (i - 1) 0) == 9) = true then true
      else x == 8204 && joinsB T l (nextB T l i false) 1 && joinsB T l (nextB T l i true) 2) := Lib.hid (by unfold jper; rw [HD.out])
  have rT : ∀ yy : ExtW wb, ∀ k : Nat, yy.w.cell? ⟨w.heap.size, k, none⟩ = t.v.cells[k]? := fun yy => box_at' hwb yy.h
  have rX : ∀ yy : ExtW wb, yy.w.cell? ⟨b, o + i, none⟩ = some (.int .i64 x) := ext_cell h1
  have hk0 : (0 : Int) ≤ (i : Int) := Int.natCast_nonneg _
  have hk1 : (i : Int) < (l.length : Int) := by omega
  clear HD
  have h1a : (w.alloc (.cells #[.slice t.s0.a t.s0.n t.s0.c, .slice t.s1.a t.s1.n t.s1.c, .slice t.s2.a t.s2.n t.s2.c, .slice t.s3.a t.s3.n t.s3.c, .slice t.s4.a t.s4.n t.s4.c, .slice t.s5.a t.s5.n t.s5.c, .slice t.s6.a t.s6.n t.s6.c, .slice t.s7.a t.s7.n t.s7.c, .slice t.s8.a t.s8.n t.s8.c, .slice t.s9.a t.s9.n t.s9.c, .slice t.s10.a t.s10.n t.s10.c, .slice t.s11.a t.s11.n t.s11.c] 26)).cell? ⟨b, o + i, none⟩ = some (.int .i64 x) := by rw [← hwb]; exact h1
  clear h1
  by_cases hx : x = 8204 ∨ x = 8205
  · have HG : Hid (∀ v0, (decide (0 < i) && clsT T (l.getD (i - 1) 0) == 9) = v0 → jper T l i = if v0 = true then true else (x == 8204 && joinsB T l (nextB T l i false) 1 && joinsB T l (nextB T l i true) 2)) := Lib.hid (by
      intro v0 h
      rw [HF.out, h, if_neg (by rcases hx with rfl | rfl <;> decide)])
    clear HF
    have hz : Hid (0 < i → ∃ y, l.getD (i - 1) 0 = y ∧ wb.cell? ⟨b, o + (i - 1), none⟩ = some (.int .i64 y)) := Lib.hid (fun h0 => by
      obtain ⟨b', o', hbo, h2⟩ := (HI.out.ext hba).at_ (i := i - 1) (by omega)
      injection hbo with hbo
      injection hbo with e1 e2
      subst e1 e2
      exact ⟨_, getD_lt l (i - 1) 0 (by omega), h2⟩)
    rcases Nat.eq_zero_or_pos i with hi0 | hi0
    · have hd : decide ((0 : Int) < (i : Int)) = false := by rw [decide_eq_false_iff_not]; omega
      have hd2 : decide (0 < i) = false := by rw [decide_eq_false_iff_not]; omega
      have HG2 : Hid (jper T l i = (x == 8204 && joinsB T l (nextB T l i false) 1 && joinsB T l (nextB T l i true) 2)) := Lib.hid (by rw [HG.out false (by simp [hi0])]; rfl)
      clear HG hz hi0
      rcases hx with rfl | rfl
      · have HG3 : Hid (jper T l i = (joinsB T l (nextB T l i false) 1 && joinsB T l (nextB T l i true) 2)) := Lib.hid (by rw [HG2.out]; simp)
        clear HG2
        go_enter Tryd.func36, Tryd.ntmps36
        go_wp2_with fail
        rw [← hwb]
        refine region_ext (by kernel_rfl) (by kernel_rfl) ?_
        repeat (go_big_quiet_step (fail))
        refine wpQuiet_nil ?_
        rintro _ ⟨xw, rfl⟩
        have hbx := hba.trans' xw.h
        have rT2 : ∀ yy : ExtW xw.w, ∀ k : Nat, yy.w.cell? ⟨w.heap.size, k, none⟩ = t.v.cells[k]? := fun yy => box_at' hwb (xw.h.trans' yy.h)
        have rX2 : ∀ yy : ExtW xw.w, yy.w.cell? ⟨b, o + i, none⟩ = some (.int .i64 8204) := ext_cell (rX xw)
        clear rT rX h1a hwb hba
        cases hJ : joinsB T l (nextB T l i false) 1
        · have HG4 : Hid (jper T l i = false) := Lib.hid (by rw [HG3.out, hJ]; rfl)
          clear HG3
          go_wp2_with fail
          refine region_ext (by kernel_rfl) (by kernel_rfl) ?_
          repeat (go_big_quiet_step ((first | (go_at_call 44; first | with_reducible exact quiet_ext (next_dn t T l _ _ c i _ (HT.out.ext_ (hbx.trans' (ExtW.h _))) hs (HI.out.ext (hbx.trans' (ExtW.h _))) hi) | with_reducible exact quiet_ext (next_up t T l _ _ c i _ (HT.out.ext_ (hbx.trans' (ExtW.h _))) hs (HI.out.ext (hbx.trans' (ExtW.h _))) hi)) | (go_at_call 48; first | with_reducible exact quiet_ext (joins_spec t T l _ _ c _ _ _ (HT.out.ext_ (hbx.trans' (ExtW.h _))) hs (HI.out.ext (hbx.trans' (ExtW.h _))) HN1.out.1) | with_reducible exact quiet_ext (joins_spec t T l _ _ c _ _ _ (HT.out.ext_ (hbx.trans' (ExtW.h _))) hs (HI.out.ext (hbx.trans' (ExtW.h _))) HN2.out.1)))))
          refine wpQuiet_nil ?_
          rintro _ ⟨zw, rfl⟩
          have hbz := hbx.trans' zw.h
          go_wp2_with fail
          go_ret
          exact ⟨ret_bool HG4.out.symm, hbz⟩
        · have HG4 : Hid (jper T l i = joinsB T l (nextB T l i true) 2) := Lib.hid (by rw [HG3.out, hJ]; rfl)
          clear HG3
          go_wp2_with fail
          refine region_ext (by kernel_rfl) (by kernel_rfl) ?_
          repeat (go_big_quiet_step ((first | (go_at_call 44; first | with_reducible exact quiet_ext (next_dn t T l _ _ c i _ (HT.out.ext_ (hbx.trans' (ExtW.h _))) hs (HI.out.ext (hbx.trans' (ExtW.h _))) hi) | with_reducible exact quiet_ext (next_up t T l _ _ c i _ (HT.out.ext_ (hbx.trans' (ExtW.h _))) hs (HI.out.ext (hbx.trans' (ExtW.h _))) hi)) | (go_at_call 48; first | with_reducible exact quiet_ext (joins_spec t T l _ _ c _ _ _ (HT.out.ext_ (hbx.trans' (ExtW.h _))) hs (HI.out.ext (hbx.trans' (ExtW.h _))) HN1.out.1) | with_reducible exact quiet_ext (joins_spec t T l _ _ c _ _ _ (HT.out.ext_ (hbx.trans' (ExtW.h _))) hs (HI.out.ext (hbx.trans' (ExtW.h _))) HN2.out.1)))))
          refine wpQuiet_nil ?_
          rintro _ ⟨zw, rfl⟩
          have hbz := hbx.trans' zw.h
          go_wp2_with fail
          go_ret
          exact ⟨ret_bool HG4.out.symm, hbz⟩
      · have HG4 : Hid (jper T l i = false) := Lib.hid (by rw [HG2.out]; rfl)
        clear HG2
        go_enter Tryd.func36, Tryd.ntmps36
        go_wp2_with fail
        rw [← hwb]
        refine region_ext (by kernel_rfl) (by kernel_rfl) ?_
        repeat (go_big_quiet_step (fail))
        refine wpQuiet_nil ?_
        rintro _ ⟨xw, rfl⟩
        have hbx := hba.trans' xw.h
        have rT2 : ∀ yy : ExtW xw.w, ∀ k : Nat, yy.w.cell? ⟨w.heap.size, k, none⟩ = t.v.cells[k]? := fun yy => box_at' hwb (xw.h.trans' yy.h)
        have rX2 : ∀ yy : ExtW xw.w, yy.w.cell? ⟨b, o + i, none⟩ = some (.int .i64 8205) := ext_cell (rX xw)
        clear rT rX h1a hwb hba
        go_wp2_with fail
        refine region_ext (by kernel_rfl) (by kernel_rfl) ?_
        repeat (go_big_quiet_step ((first | (go_at_call 44; first | with_reducible exact quiet_ext (next_dn t T l _ _ c i _ (HT.out.ext_ (hbx.trans' (ExtW.h _))) hs (HI.out.ext (hbx.trans' (ExtW.h _))) hi) | with_reducible exact quiet_ext (next_up t T l _ _ c i _ (HT.out.ext_ (hbx.trans' (ExtW.h _))) hs (HI.out.ext (hbx.trans' (ExtW.h _))) hi)) | (go_at_call 48; first | with_reducible exact quiet_ext (joins_spec t T l _ _ c _ _ _ (HT.out.ext_ (hbx.trans' (ExtW.h _))) hs (HI.out.ext (hbx.trans' (ExtW.h _))) HN1.out.1) | with_reducible exact quiet_ext (joins_spec t T l _ _ c _ _ _ (HT.out.ext_ (hbx.trans' (ExtW.h _))) hs (HI.out.ext (hbx.trans' (ExtW.h _))) HN2.out.1)))))
        refine wpQuiet_nil ?_
        rintro _ ⟨zw, rfl⟩
        have hbz := hbx.trans' zw.h
        go_wp2_with fail
        go_ret
        exact ⟨ret_bool HG4.out.symm, hbz⟩
    · obtain ⟨y, hy, hcy⟩ := hz.out hi0
      obtain ⟨k, hk⟩ : ∃ k, i = k + 1 := ⟨i - 1, by omega⟩
      have hd : decide ((0 : Int) < (i : Int)) = true := by rw [decide_eq_true_eq]; omega
      have hd2 : decide (0 < i) = true := by rw [decide_eq_true_eq]; omega
      have hsub : (i : Int) - 1 = (k : Int) := by omega
      have hki : i - 1 = k := by omega
      rw [hki] at hcy
      have rY : ∀ yy : ExtW wb, yy.w.cell? ⟨b, o + k, none⟩ = some (.int .i64 y) := ext_cell hcy
      have hkk0 : (0 : Int) ≤ (k : Int) := Int.natCast_nonneg _
      have hkk1 : (k : Int) < (l.length : Int) := by omega
      have HG1 := HG.out _ rfl
      rw [hy, hd2] at HG1
      clear HG hz hcy hk hki
      cases hv : (clsT T y == 9)
      · have HG2 : Hid (jper T l i = (x == 8204 && joinsB T l (nextB T l i false) 1 && joinsB T l (nextB T l i true) 2)) := Lib.hid (by rw [HG1, hv]; rfl)
        clear HG1
        rcases hx with rfl | rfl
        · have HG3 : Hid (jper T l i = (joinsB T l (nextB T l i false) 1 && joinsB T l (nextB T l i true) 2)) := Lib.hid (by rw [HG2.out]; simp)
          clear HG2
          go_enter Tryd.func36, Tryd.ntmps36
          go_wp2_with fail
          rw [← hwb]
          refine region_ext (by kernel_rfl) (by kernel_rfl) ?_
          repeat (go_big_quiet_step ((go_at_call 47; with_reducible exact quiet_ext (class_spec t T y _ (HT.out.ext_ (hba.trans' (ExtW.h _))) hs))))
          refine wpQuiet_nil ?_
          rintro _ ⟨xw, rfl⟩
          have hbx := hba.trans' xw.h
          have rT2 : ∀ yy : ExtW xw.w, ∀ k : Nat, yy.w.cell? ⟨w.heap.size, k, none⟩ = t.v.cells[k]? := fun yy => box_at' hwb (xw.h.trans' yy.h)
          have rX2 : ∀ yy : ExtW xw.w, yy.w.cell? ⟨b, o + i, none⟩ = some (.int .i64 8204) := ext_cell (rX xw)
          clear rT rX h1a hwb hba
          cases hJ : joinsB T l (nextB T l i false) 1
          · have HG4 : Hid (jper T l i = false) := Lib.hid (by rw [HG3.out, hJ]; rfl)
            clear HG3
            go_wp2_with fail
            refine region_ext (by kernel_rfl) (by kernel_rfl) ?_
            repeat (go_big_quiet_step ((first | (go_at_call 44; first | with_reducible exact quiet_ext (next_dn t T l _ _ c i _ (HT.out.ext_ (hbx.trans' (ExtW.h _))) hs (HI.out.ext (hbx.trans' (ExtW.h _))) hi) | with_reducible exact quiet_ext (next_up t T l _ _ c i _ (HT.out.ext_ (hbx.trans' (ExtW.h _))) hs (HI.out.ext (hbx.trans' (ExtW.h _))) hi)) | (go_at_call 48; first | with_reducible exact quiet_ext (joins_spec t T l _ _ c _ _ _ (HT.out.ext_ (hbx.trans' (ExtW.h _))) hs (HI.out.ext (hbx.trans' (ExtW.h _))) HN1.out.1) | with_reducible exact quiet_ext (joins_spec t T l _ _ c _ _ _ (HT.out.ext_ (hbx.trans' (ExtW.h _))) hs (HI.out.ext (hbx.trans' (ExtW.h _))) HN2.out.1)))))
            refine wpQuiet_nil ?_
            rintro _ ⟨zw, rfl⟩
            have hbz := hbx.trans' zw.h
            go_wp2_with fail
            go_ret
            exact ⟨ret_bool HG4.out.symm, hbz⟩
          · have HG4 : Hid (jper T l i = joinsB T l (nextB T l i true) 2) := Lib.hid (by rw [HG3.out, hJ]; rfl)
            clear HG3
            go_wp2_with fail
            refine region_ext (by kernel_rfl) (by kernel_rfl) ?_
            repeat (go_big_quiet_step ((first | (go_at_call 44; first | with_reducible exact quiet_ext (next_dn t T l _ _ c i _ (HT.out.ext_ (hbx.trans' (ExtW.h _))) hs (HI.out.ext (hbx.trans' (ExtW.h _))) hi) | with_reducible exact quiet_ext (next_up t T l _ _ c i _ (HT.out.ext_ (hbx.trans' (ExtW.h _))) hs (HI.out.ext (hbx.trans' (ExtW.h _))) hi)) | (go_at_call 48; first | with_reducible exact quiet_ext (joins_spec t T l _ _ c _ _ _ (HT.out.ext_ (hbx.trans' (ExtW.h _))) hs (HI.out.ext (hbx.trans' (ExtW.h _))) HN1.out.1) | with_reducible exact quiet_ext (joins_spec t T l _ _ c _ _ _ (HT.out.ext_ (hbx.trans' (ExtW.h _))) hs (HI.out.ext (hbx.trans' (ExtW.h _))) HN2.out.1)))))
            refine wpQuiet_nil ?_
            rintro _ ⟨zw, rfl⟩
            have hbz := hbx.trans' zw.h
            go_wp2_with fail
            go_ret
            exact ⟨ret_bool HG4.out.symm, hbz⟩
        · have HG4 : Hid (jper T l i = false) := Lib.hid (by rw [HG2.out]; rfl)
          clear HG2
          go_enter Tryd.func36, Tryd.ntmps36
          go_wp2_with fail
          rw [← hwb]
          refine region_ext (by kernel_rfl) (by kernel_rfl) ?_
          repeat (go_big_quiet_step ((go_at_call 47; with_reducible exact quiet_ext (class_spec t T y _ (HT.out.ext_ (hba.trans' (ExtW.h _))) hs))))
          refine wpQuiet_nil ?_
          rintro _ ⟨xw, rfl⟩
          have hbx := hba.trans' xw.h
          have rT2 : ∀ yy : ExtW xw.w, ∀ k : Nat, yy.w.cell? ⟨w.heap.size, k, none⟩ = t.v.cells[k]? := fun yy => box_at' hwb (xw.h.trans' yy.h)
          have rX2 : ∀ yy : ExtW xw.w, yy.w.cell? ⟨b, o + i, none⟩ = some (.int .i64 8205) := ext_cell (rX xw)
          clear rT rX h1a hwb hba
          go_wp2_with fail
          refine region_ext (by kernel_rfl) (by kernel_rfl) ?_
          repeat (go_big_quiet_step ((first | (go_at_call 44; first | with_reducible exact quiet_ext (next_dn t T l _ _ c i _ (HT.out.ext_ (hbx.trans' (ExtW.h _))) hs (HI.out.ext (hbx.trans' (ExtW.h _))) hi) | with_reducible exact quiet_ext (next_up t T l _ _ c i _ (HT.out.ext_ (hbx.trans' (ExtW.h _))) hs (HI.out.ext (hbx.trans' (ExtW.h _))) hi)) | (go_at_call 48; first | with_reducible exact quiet_ext (joins_spec t T l _ _ c _ _ _ (HT.out.ext_ (hbx.trans' (ExtW.h _))) hs (HI.out.ext (hbx.trans' (ExtW.h _))) HN1.out.1) | with_reducible exact quiet_ext (joins_spec t T l _ _ c _ _ _ (HT.out.ext_ (hbx.trans' (ExtW.h _))) hs (HI.out.ext (hbx.trans' (ExtW.h _))) HN2.out.1)))))
          refine wpQuiet_nil ?_
          rintro _ ⟨zw, rfl⟩
          have hbz := hbx.trans' zw.h
          go_wp2_with fail
          go_ret
          exact ⟨ret_bool HG4.out.symm, hbz⟩
      · have HG4 : Hid (jper T l i = true) := Lib.hid (by rw [HG1, hv]; rfl)
        clear HG1
        have hx1 : Hid (x = 8204 ∨ x = 8205) := hx
        clear hx
        rcases hx1.out with rfl | rfl
        all_goals
          go_enter Tryd.func36, Tryd.ntmps36
          go_wp2_with fail
          rw [← hwb]
          refine region_ext (by kernel_rfl) (by kernel_rfl) ?_
          repeat (go_big_quiet_step ((go_at_call 47; with_reducible exact quiet_ext (class_spec t T y _ (HT.out.ext_ (hba.trans' (ExtW.h _))) hs))))
          refine wpQuiet_nil ?_
          rintro _ ⟨xw, rfl⟩
          have hbx := hba.trans' xw.h
          go_wp2_with fail
          go_ret
          exact ⟨ret_bool HG4.out.symm, hbx⟩
  · have HF2 : Hid (jper T l i = true) := Lib.hid (by rw [HF.out, if_pos (by simp only [not_or] at hx; simp [hx.1, hx.2])])
    have e1 : (x != 8204) = true := by rw [bne_iff_ne]; exact fun h => hx (.inl h)
    have e2 : (x != 8205) = true := by rw [bne_iff_ne]; exact fun h => hx (.inr h)
    clear hx HF
    go_enter Tryd.func36, Tryd.ntmps36
    go_wp2_with fail
    go_ret
    exact ⟨ret_bool HF2.out.symm, by rw [hwb] at hba; exact hba⟩
end Go.Proofs.YtgfdecfcbnnemaaDoor
