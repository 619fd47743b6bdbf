/- The law JoinerVirama. -/
import Derived.Test.YtgfdecfcbnnemaaDoorPj
import Derived.Test.YtgfdecfcbnnemaaDoorLa
import Derived.Test.YtgfdecfcbnnemaaDoorKt2
import Derived.Test.YtgfdecfcbnnemaaDoorR
namespace Go.Proofs.YtgfdecfcbnnemaaDoor
open Go.RowKit

def VLoop (wb : World) (n gh : Nat) (s16 : Value) (wx : World) : Prop := ∃ k : Nat, k + gh = n ∧ s16 = .int .i64 k ∧ Ext wb wx

set_option maxHeartbeats 3200000 in
set_option maxRecDepth 100000 in
theorem virama_spec (l m : List Int) (A : Option Addr) (n c : Nat) (A2 : Option Addr) (n2 c2 : Nat) (w : World) (h : IntS w ⟨A, n, c⟩ l) (h2 : IntS w ⟨A2, n2, c2⟩ m) (hg : Glob w) :
    Calls Tryd.prog 3 #[.slice A n c, .slice A2 n2 c2] w fun e w' => e = .returned (.bool true) ∧ Ext w w' := by
  have HG := Lib.hid hg
  have HM := Lib.hid h2
  have HL := Lib.hid h
  have hll := joiningL_len m
  clear hg h h2
  go_enter Tryd.func3, Tryd.ntmps3
  go_wp2_with fail
  refine Calls.mono (tables_spec l A n c w HL.out HG.out) ?_
  rintro e w1 ⟨t, rfl, ht, hb1⟩
  have hx1 : Ext w1 (w1.alloc (.cells t.v.cells 26)) := (Ext.refl _).alloc_ _
  have HT := Lib.hid (ht.ext_ hx1)
  have hb01 := hb1.trans' hx1
  clear ht
  go_wp2_with fail
  refine Calls.mono (ljoining_spec m A2 n2 c2 _ (HM.out.ext hb01)) ?_
  rintro e w2 ⟨A3, n3, c3, rfl, hi3, hb2⟩
  have rT : ∀ k : Nat, w2.cell? ⟨w1.heap.size, k, none⟩ = t.v.cells[k]? := box_at hb2
  have HRT := Lib.hid rT
  have HT2 := Lib.hid (HT.out.ext_ hb2)
  have hb02 := hb01.trans' hb2
  have hz2 : w1.heap.size < w2.heap.size := by have h' := hb2.b.size; simp at h'; omega
  have hn3 := hi3.len.1
  subst hn3
  have HI3 := Lib.hid hi3
  have HB02 := Lib.hid hb02
  have HORD := Lib.hid (joining_ord l m)
  generalize joiningL m = L at *
  generalize madeT l = T at *
  clear hi3 hb01 hb02 hb1 hb2 hx1 HT rT
  go_wp2_with fail
  go_loopg [16] L.length (fun gh s16 wx => VLoop w2 L.length gh s16 wx)
  case atStart => exact ⟨0, by omega, rfl, Ext.refl _⟩
  case round =>
    obtain ⟨k, hkg, rfl, hbx⟩ := hrel
    have HBX := Lib.hid hbx
    by_cases hlt : k < L.length
    · obtain ⟨gk', rfl⟩ : ∃ g', gk = g' + 1 := ⟨gk - 1, by omega⟩
      have HXD : Hid (L.getD k 0 = L[k]) := Lib.hid (getD_lt L k 0 hlt)
      have HPB : Hid (jpermB T L k = jper T L k) := Lib.hid (jpermB_ok HORD.out hlt)
      obtain ⟨b, o, ha, hc⟩ := (HI3.out.ext hbx).at_ hlt
      subst ha
      have HY : Hid (∀ j, k = j + 1 → ∃ y, L.getD j 0 = y ∧ wr.cell? ⟨b, o + j, none⟩ = some (.int .i64 y)) := Lib.hid (fun j hj => by
        obtain ⟨b', o', hbo, h2⟩ := (HI3.out.ext HBX.out).at_ (i := j) (by omega)
        injection hbo with hbo
        injection hbo with e1 e2
        subst e1 e2
        exact ⟨_, getD_lt L j 0 (by omega), h2⟩)
      generalize L[k] = x at *
      have hk0 : (0 : Int) ≤ (k : Int) := Int.natCast_nonneg _
      have hk1 : (k : Int) < (L.length : Int) := by omega
      obtain ⟨wo, rfl⟩ : ∃ wo : World, wo = wr := ⟨_, rfl⟩
      have rT : ∀ yy : ExtW wo, ∀ j : Nat, yy.w.cell? ⟨w1.heap.size, j, none⟩ = t.v.cells[j]? := fun yy j => ((HBX.out.trans' yy.h).b.cell (p := ⟨w1.heap.size, j, none⟩) hz2).trans (HRT.out j)
      have HJ : Hid (∀ (w' : World), Ext w2 w' → ∀ v, jper T L k = v → Calls Tryd.prog 13 #[t.v, .slice (some ⟨b, o, none⟩) L.length c3, .int .i64 k] w' fun e w'' => e = .returned (.bool v) ∧ Ext w' w'') := Lib.hid (fun w' hw' v hv => by
        have h := jpermitted_spec t T L _ _ c3 k w' (HT2.out.ext_ hw') (HI3.out.ext hw')
        rw [HPB.out, hv] at h
        exact h)
      rcases Nat.eq_zero_or_pos k with hz | hpos
      · have hd2 : decide (0 < k) = false := by rw [decide_eq_false_iff_not]; omega
        have HV : Hid (virB T L k = false) := Lib.hid (by unfold virB; rw [hd2]; rfl)
        clear hz
        by_cases hx : x = 8205 ∨ x = 8204
        · rcases hx with rfl | rfl
          · have HJV : Hid (jper T L k = false) := Lib.hid ((jper_zwj HXD.out).trans HV.out)
            go_wp2_with fail
            refine region_ext (by kernel_rfl) (by kernel_rfl) ?_
            repeat (go_big_quiet_step (fail))
            refine wpQuiet_nil ?_
            rintro _ ⟨xw, rfl⟩
            have hbx1 := HBX.out.trans' xw.h
            have rT2 : ∀ j : Nat, xw.w.cell? ⟨w1.heap.size, j, none⟩ = t.v.cells[j]? := rT xw
            clear rT hc
            go_wp2_with (go_at_call 13; refine (HJ.out _ hbx1 _ HJV.out).mono ?_; rintro e w6 ⟨rfl, hb6⟩)
            have hbx2 := hbx1.trans' hb6
            go_roundg gk'
            case measure => omega
            case rel => exact ⟨k + 1, by omega, by go_num, hbx2⟩
          · go_wp2_with fail
            refine region_ext (by kernel_rfl) (by kernel_rfl) ?_
            repeat (go_big_quiet_step (fail))
            refine wpQuiet_nil ?_
            rintro _ ⟨xw, rfl⟩
            have hbx1 := HBX.out.trans' xw.h
            clear rT hc
            have hbx2 := hbx1
            go_wp2_with fail
            go_roundg gk'
            case measure => omega
            case rel => exact ⟨k + 1, by omega, by go_num, hbx2⟩
        · simp only [not_or] at hx
          have e1 : (x == 8205) = false := by rw [beq_eq_false_iff_ne]; exact hx.1
          have e2 : (x == 8204) = false := by rw [beq_eq_false_iff_ne]; exact hx.2
          clear hx
          go_wp2_with fail
          refine region_ext (by kernel_rfl) (by kernel_rfl) ?_
          repeat (go_big_quiet_step (fail))
          refine wpQuiet_nil ?_
          rintro _ ⟨xw, rfl⟩
          have hbx1 := HBX.out.trans' xw.h
          clear rT hc
          have hbx2 := hbx1
          go_wp2_with fail
          go_roundg gk'
          case measure => omega
          case rel => exact ⟨k + 1, by omega, by go_num, hbx2⟩
      · obtain ⟨j, hj⟩ : ∃ j, k = j + 1 := ⟨k - 1, by omega⟩
        obtain ⟨y, hy, hcy⟩ := HY.out j hj
        have hd2 : decide (0 < k) = true := by rw [decide_eq_true_eq]; omega
        have hsub : (k : Int) - 1 = (j : Int) := by omega
        have hjj0 : (0 : Int) ≤ (j : Int) := Int.natCast_nonneg _
        have hjj1 : (j : Int) < (L.length : Int) := by omega
        obtain ⟨v, hv⟩ : ∃ v, (clsT T y == 9) = v := ⟨_, rfl⟩
        have HV : Hid (virB T L k = v) := Lib.hid (by unfold virB; rw [hd2, show k - 1 = j from by omega, hy, hv]; rfl)
        have HC : Hid (∀ (w' : World), Ext w2 w' → Calls Tryd.prog 12 #[t.v, .int .i64 y] w' fun e w'' => e = .returned (.int .i64 (clsT T y)) ∧ Ext w' w'') := Lib.hid (fun w' hw' => rclass_spec t T y w' (HT2.out.ext_ hw'))
        have rY : ∀ yy : ExtW wo, yy.w.cell? ⟨b, o + j, none⟩ = some (.int .i64 y) := ext_cell hcy
        generalize clsT T y = cy at *
        clear hpos hj hy hcy HY
        by_cases hx : x = 8205 ∨ x = 8204
        · rcases hx with rfl | rfl
          · have HJV : Hid (jper T L k = v) := Lib.hid ((jper_zwj HXD.out).trans HV.out)
            cases v
            all_goals
              go_wp2_with fail
              refine region_ext (by kernel_rfl) (by kernel_rfl) ?_
              repeat (go_big_quiet_step ((go_at_call 12; with_reducible exact quiet_ext (HC.out _ (HBX.out.trans' (ExtW.h _))))))
              refine wpQuiet_nil ?_
              rintro _ ⟨xw, rfl⟩
              have hbx1 := HBX.out.trans' xw.h
              have rT2 : ∀ j : Nat, xw.w.cell? ⟨w1.heap.size, j, none⟩ = t.v.cells[j]? := rT xw
              clear rT rY hc hv
              go_wp2_with (go_at_call 13; refine (HJ.out _ hbx1 _ HJV.out).mono ?_; rintro e w6 ⟨rfl, hb6⟩)
              have hbx2 := hbx1.trans' hb6
              go_roundg gk'
              case measure => omega
              case rel => exact ⟨k + 1, by omega, by go_num, hbx2⟩
          · cases v
            · go_wp2_with fail
              refine region_ext (by kernel_rfl) (by kernel_rfl) ?_
              repeat (go_big_quiet_step ((go_at_call 12; with_reducible exact quiet_ext (HC.out _ (HBX.out.trans' (ExtW.h _))))))
              refine wpQuiet_nil ?_
              rintro _ ⟨xw, rfl⟩
              have hbx1 := HBX.out.trans' xw.h
              clear rT rY hc hv
              have hbx2 := hbx1
              go_wp2_with fail
              go_roundg gk'
              case measure => omega
              case rel => exact ⟨k + 1, by omega, by go_num, hbx2⟩
            · have HJV : Hid (jper T L k = true) := Lib.hid (by rw [jper_zwnj HXD.out, HV.out]; rfl)
              go_wp2_with fail
              refine region_ext (by kernel_rfl) (by kernel_rfl) ?_
              repeat (go_big_quiet_step ((go_at_call 12; with_reducible exact quiet_ext (HC.out _ (HBX.out.trans' (ExtW.h _))))))
              refine wpQuiet_nil ?_
              rintro _ ⟨xw, rfl⟩
              have hbx1 := HBX.out.trans' xw.h
              have rT2 : ∀ j : Nat, xw.w.cell? ⟨w1.heap.size, j, none⟩ = t.v.cells[j]? := rT xw
              clear rT rY hc hv
              go_wp2_with (go_at_call 13; refine (HJ.out _ hbx1 _ HJV.out).mono ?_; rintro e w6 ⟨rfl, hb6⟩)
              have hbx2 := hbx1.trans' hb6
              go_roundg gk'
              case measure => omega
              case rel => exact ⟨k + 1, by omega, by go_num, hbx2⟩
        · simp only [not_or] at hx
          have e1 : (x == 8205) = false := by rw [beq_eq_false_iff_ne]; exact hx.1
          have e2 : (x == 8204) = false := by rw [beq_eq_false_iff_ne]; exact hx.2
          clear hx
          cases v
          all_goals
            go_wp2_with fail
            refine region_ext (by kernel_rfl) (by kernel_rfl) ?_
            repeat (go_big_quiet_step ((go_at_call 12; with_reducible exact quiet_ext (HC.out _ (HBX.out.trans' (ExtW.h _))))))
            refine wpQuiet_nil ?_
            rintro _ ⟨xw, rfl⟩
            have hbx1 := HBX.out.trans' xw.h
            clear rT rY hc hv
            have hbx2 := hbx1
            go_wp2_with fail
            go_roundg gk'
            case measure => omega
            case rel => exact ⟨k + 1, by omega, by go_num, hbx2⟩
    · go_wp2_with fail
      refine (awake_spec wr (HG.out.ext (HB02.out.trans' HBX.out))).mono ?_
      rintro e w7 ⟨rfl, hb7⟩
      go_wp2_with fail
      go_ret
      exact ⟨rfl, (HB02.out.trans' HBX.out).trans' hb7⟩
end Go.Proofs.YtgfdecfcbnnemaaDoor
