/- The law ContextTogether. -/
import Derived.Test.YtgfdecfcbnnemaaDoorSp
import Derived.Test.YtgfdecfcbnnemaaDoorKt2
namespace Go.Proofs.YtgfdecfcbnnemaaDoor
open Go.RowKit

def TgLoop (wb : World) (L : List Int) (gh : Nat) (s17 s18 s60 : Value) (wx : World) : Prop :=
  ∃ (k : Nat) (p q : Bool), k + gh = L.length ∧ s60 = .int .i64 k ∧ s17 = .bool p ∧ s18 = .bool q ∧ Ext wb wx ∧ Hid ((L.take k).any arabB = p) ∧ Hid ((L.take k).any extdB = q)
theorem any_take {L : List Int} {k : Nat} {f : Int → Bool} (h : k < L.length) : (L.take (k + 1)).any f = ((L.take k).any f || f L[k]) := by
  rw [List.take_succ_eq_append_getElem h, List.any_append]; simp

set_option maxHeartbeats 6400000 in
set_option maxRecDepth 100000 in
theorem together_spec (l m o : List Int) (A : Option Addr) (n c : Nat) (A2 : Option Addr) (n2 c2 : Nat) (A4 : Option Addr) (n4 c4 : Nat) (w : World) (h : IntS w ⟨A, n, c⟩ l) (h2 : IntS w ⟨A2, n2, c2⟩ m) (h4 : IntS w ⟨A4, n4, c4⟩ o) (hg : Glob w) :
    Calls Tryd.prog 7 #[.slice A n c, .slice A2 n2 c2, .slice A4 n4 c4] w fun e w' => e = .returned (.bool true) ∧ Ext w w' := by
  have HG := Lib.hid hg
  have HM := Lib.hid h2
  have HO := Lib.hid h4
  have HL := Lib.hid h
  have hlm := specialL_len m
  have hlo := specialL_len o
  clear hg h h2 h4
  go_enter Tryd.func7, Tryd.ntmps7
  go_wp2_with fail
  refine Calls.mono (tables_spec l A n c w HL.out HG.out) ?_
  rintro e w1 ⟨t, rfl, ht, hb1⟩
  have hx1 : Ext w1 (w1.alloc (.cells t.v.cells 26)) := (Ext.refl _).alloc_ _
  have HT := Lib.hid (ht.ext_ hx1)
  have hb01 := hb1.trans' hx1
  clear ht
  go_wp2_with fail
  refine Calls.mono (special_spec m A2 n2 c2 _ (HM.out.ext hb01)) ?_
  rintro e w2 ⟨A3, n3, c3, rfl, hi3, hb2⟩
  have hn3 := hi3.len.1
  subst hn3
  have HI3 := Lib.hid hi3
  have hb02 := hb01.trans' hb2
  clear hi3
  go_wp2_with fail
  refine Calls.mono (special_spec o A4 n4 c4 _ (HO.out.ext hb02)) ?_
  rintro e w3 ⟨A5, n5, c5, rfl, hi5, hb3⟩
  have hn5 := hi5.len.1
  subst hn5
  have HI5 := Lib.hid hi5
  have hbx3 := hb2.trans' hb3
  have rT : ∀ k : Nat, w3.cell? ⟨w1.heap.size, k, none⟩ = t.v.cells[k]? := box_at hbx3
  have HRT := Lib.hid rT
  have HT3 := Lib.hid (HT.out.ext_ hbx3)
  have hb03 := hb02.trans' hb3
  have hz3 : w1.heap.size < w3.heap.size := by have h' := hbx3.b.size; simp at h'; omega
  have HI3' := Lib.hid (HI3.out.ext hb3)
  have HB03 := Lib.hid hb03
  have HP := Lib.hid (together_law l m o)
  generalize specialL m = La at *
  generalize specialL o = Lb at *
  generalize madeT l = T at *
  clear hi5 hb01 hb02 hb03 hb1 hb2 hb3 hbx3 hx1 HT HI3
  go_wp2_with fail
  refine (ccheck_spec t T La A3 _ c3 w3 HT3.out HI3'.out).mono ?_
  rintro e w4 ⟨rfl, hb4⟩
  obtain ⟨va, hva⟩ : ∃ va, ccheck T La = va := ⟨_, rfl⟩
  obtain ⟨a1, a2⟩ := va
  rw [hva]
  have rT4 : ∀ k : Nat, w4.cell? ⟨w1.heap.size, k, none⟩ = t.v.cells[k]? := fun k => (hb4.b.cell (p := ⟨w1.heap.size, k, none⟩) hz3).trans (HRT.out k)
  have HVA := Lib.hid hva
  have HB4 := Lib.hid hb4
  clear rT hva hb4
  go_wp2_with fail
  refine (ccheck_spec t T Lb A5 _ c5 w4 (HT3.out.ext_ HB4.out) (HI5.out.ext HB4.out)).mono ?_
  rintro e w5 ⟨rfl, hb5⟩
  obtain ⟨vb, hvb⟩ : ∃ vb, ccheck T Lb = vb := ⟨_, rfl⟩
  obtain ⟨b1, b2⟩ := vb
  rw [hvb]
  have HVB := Lib.hid hvb
  have HB35 := Lib.hid (HB4.out.trans' hb5)
  have HB05 := Lib.hid (HB03.out.trans' HB35.out)
  clear rT4 hvb hb5 HB4
  by_cases hbad : a2 = 0 ∧ b2 = 0
  · obtain ⟨rfl, rfl⟩ := hbad
    have HQ := Lib.hid (HP.out (by rw [HVA.out]) (by rw [HVB.out]))
    obtain ⟨A6, c6, w6, hrun6, hown6, hgr6, hat6⟩ := append_ints (w := w5) (base := w5.heap.size) (n := 0) (c := 0) (A := none) (l := []) (Own.nil_ w5 w5.heap.size 3 1) (HI3'.out.ext HB35.out) (by omega) (Nat.le_refl _)
    simp only [Nat.zero_add, List.nil_append] at hrun6 hown6
    have HX6 : Hid (Ext w5 w6) := Lib.hid (ext_of_grown (Ext.refl _) hgr6 (fun k hk => by cases hk))
    have hx7 : Ext w6 (w6.alloc (.cells #[.int .i64 46] 3)) := (Ext.refl _).alloc_ _
    have hz6 := HX6.out.b.size
    obtain ⟨A8, c8, w8, hrun8, hown8, hgr8, hat8⟩ := append_ints (Own.ext hown6 hx7) (one_int w6 46) (by omega) (by simp; omega)
    have HX8 : Hid (Ext w5 w8) := Lib.hid (ext_of_grown (HX6.out.trans' hx7) hgr8 (fun k hk => (Own.lt hown6 k hk).1))
    obtain ⟨A9, c9, w9, hrun9, hown9, hgr9, hat9⟩ := append_ints hown8 (HI5.out.ext (HB35.out.trans' HX8.out)) (by omega) HX8.out.b.size
    have HX9 : Hid (Ext w5 w9) := Lib.hid (ext_of_grown HX8.out hgr9 (fun k hk => (Own.lt hown8 k hk).1))
    have HIB : Hid (IntS w9 ⟨A9, La.length + 1 + Lb.length, c9⟩ (La ++ [46] ++ Lb)) := Lib.hid (OwnI.ints hown9)
    have rT9 : ∀ k : Nat, w9.cell? ⟨w1.heap.size, k, none⟩ = t.v.cells[k]? := fun k => ((HB35.out.trans' HX9.out).b.cell (p := ⟨w1.heap.size, k, none⟩) hz3).trans (HRT.out k)
    have HBL := Lib.hid hlm
    have hlen : (La ++ [46] ++ Lb).length = La.length + 1 + Lb.length := by simp; omega
    have hlb : (La ++ [46] ++ Lb).length < 30 := by rw [hlen]; omega
    clear hown6 hgr6 hat6 hx7 hz6 hown8 hgr8 hat8 hown9 hgr9 hat9
    go_wp2_with (first
      | (at_builtin; refine wpList_run_append rfl _ _ _ rfl _ _ rfl rfl _ _ hrun6 ?_)
      | (at_builtin; refine wpList_run_append rfl _ _ _ rfl _ _ rfl rfl _ _ hrun8 ?_)
      | (at_builtin; refine wpList_run_append rfl _ _ _ rfl _ _ rfl rfl _ _ hrun9 ?_))
    generalize hLL : La ++ [46] ++ Lb = LL at *
    rw [← hlen] at HIB ⊢
    clear hLL hlen hrun6 hrun8 hrun9
    refine (ccheck_spec t T LL A9 _ c9 w9 (HT3.out.ext_ (HB35.out.trans' HX9.out)) HIB.out).mono ?_
    rintro e w10 ⟨rfl, hb10⟩
    obtain ⟨vc, hvc⟩ : ∃ vc, ccheck T LL = vc := ⟨_, rfl⟩
    obtain ⟨g1, g2⟩ := vc
    have HVC : Hid (g2 = if (LL.any arabB && LL.any extdB) = true then 18 else 0) := Lib.hid (by rw [← HQ.out, hvc])
    rw [hvc]
    have HB510 := Lib.hid (HX9.out.trans' hb10)
    have HIB2 := Lib.hid (HIB.out.ext hb10)
    clear hvc hb10 rT9
    go_wp2_with fail
    go_loopg [17, 18, 60] LL.length (fun gh s17 s18 s60 wx => TgLoop w10 LL gh s17 s18 s60 wx)
    case atStart => exact ⟨0, false, false, by omega, rfl, rfl, rfl, Ext.refl _, Lib.hid rfl, Lib.hid rfl⟩
    case round =>
      obtain ⟨k, p, q, hkg, rfl, rfl, rfl, hbx, HPp, HQq⟩ := hrel
      by_cases hlt : k < LL.length
      · obtain ⟨gk', rfl⟩ : ∃ g', gk = g' + 1 := ⟨gk - 1, by omega⟩
        have HP1 : Hid ((LL.take (k + 1)).any arabB = (p || arabB LL[k])) := Lib.hid (by rw [any_take hlt, HPp.out])
        have HQ1 : Hid ((LL.take (k + 1)).any extdB = (q || extdB LL[k])) := Lib.hid (by rw [any_take hlt, HQq.out])
        obtain ⟨b, o', ha, hc⟩ := (HIB2.out.ext hbx).at_ hlt
        subst ha
        generalize LL[k] = x at *
        have hk0 : (0 : Int) ≤ (k : Int) := Int.natCast_nonneg _
        have hk1 : (k : Int) < (LL.length : Int) := by omega
        obtain ⟨d1, e1⟩ : ∃ d, decide (1632 ≤ x) = d := ⟨_, rfl⟩
        obtain ⟨d2, e2⟩ : ∃ d, decide (x ≤ 1641) = d := ⟨_, rfl⟩
        obtain ⟨d3, e3⟩ : ∃ d, decide (1776 ≤ x) = d := ⟨_, rfl⟩
        obtain ⟨d4, e4⟩ : ∃ d, decide (x ≤ 1785) = d := ⟨_, rfl⟩
        have HPa : Hid ((LL.take (k + 1)).any arabB = (p || (d1 && d2))) := Lib.hid (by rw [HP1.out, arabB, e1, e2])
        have HQa : Hid ((LL.take (k + 1)).any extdB = (q || (d3 && d4))) := Lib.hid (by rw [HQ1.out, extdB, e3, e4])
        have hcls : (d1 = false ∧ d2 = true ∧ d3 = false ∧ d4 = true) ∨ (d1 = true ∧ d2 = true ∧ d3 = false ∧ d4 = true) ∨ (d1 = true ∧ d2 = false ∧ d3 = false ∧ d4 = true) ∨ (d1 = true ∧ d2 = false ∧ d3 = true ∧ d4 = true) ∨ (d1 = true ∧ d2 = false ∧ d3 = true ∧ d4 = false) := by
          subst e1 e2 e3 e4
          simp only [decide_eq_true_eq, decide_eq_false_iff_not]
          omega
        clear HP1 HQ1 HPp HQq
        rcases hcls with ⟨rfl, rfl, rfl, rfl⟩ | ⟨rfl, rfl, rfl, rfl⟩ | ⟨rfl, rfl, rfl, rfl⟩ | ⟨rfl, rfl, rfl, rfl⟩ | ⟨rfl, rfl, rfl, rfl⟩ <;> cases p <;> cases q
        all_goals
          go_wp2_with fail
          go_roundg gk'
          case measure => omega
          case rel => exact ⟨k + 1, _, _, by omega, by go_num, rfl, rfl, hbx, HPa, HQa⟩
      · have HV2 : Hid (g2 = if (p && q) = true then 18 else 0) := Lib.hid (by
          rw [HVC.out]
          have e1 := HPp.out
          have e2 := HQq.out
          rw [List.take_of_length_le (by omega)] at e1 e2
          rw [e1, e2])
        have HBE := Lib.hid ((HB05.out.trans' HB510.out).trans' hbx)
        clear HPp HQq
        cases p <;> cases q
        all_goals
          have hg2 : g2 = _ := HV2.out
          simp only [Bool.and_true, Bool.and_false, Bool.false_eq_true, if_false, if_true] at hg2
          subst hg2
          go_wp2_with fail
          refine (cawake_spec _ (HG.out.ext HBE.out)).mono ?_
          rintro e w7 ⟨rfl, hb7⟩
          go_wp2_with fail
          go_ret
          exact ⟨rfl, HBE.out.trans' hb7⟩
  · have hne : (a2 != 0 || b2 != 0) = true := by
      simp only [Bool.or_eq_true, bne_iff_ne]
      omega
    obtain ⟨d1, e1⟩ : ∃ d, (a2 != 0) = d := ⟨_, rfl⟩
    obtain ⟨d2, e2⟩ : ∃ d, (b2 != 0) = d := ⟨_, rfl⟩
    rw [e1, e2] at hne
    clear hbad
    cases d1 <;> cases d2
    case false.false => cases hne
    all_goals
      go_wp2_with fail
      refine (cawake_spec _ (HG.out.ext HB05.out)).mono ?_
      rintro e w7 ⟨rfl, hb7⟩
      go_wp2_with fail
      go_ret
      exact ⟨rfl, HB05.out.trans' hb7⟩
end Go.Proofs.YtgfdecfcbnnemaaDoor
