/- The law ContextDigits. -/
import Derived.Test.YtgfdecfcbnnemaaDoorSp
import Derived.Test.YtgfdecfcbnnemaaDoorKt2
import Derived.Test.YtgfdecfcbnnemaaDoorBy
import Derived.Test.YtgfdecfcbnnemaaDoorKd
namespace Go.Proofs.YtgfdecfcbnnemaaDoor
open Go.RowKit

def DgLoop (wb : World) (mm : List Int) (gh : Nat) (s6 s7 s8 : Value) (wx : World) : Prop :=
  ∃ (k : Nat) (A : Option Addr) (c : Nat) (B : Option Addr) (d : Nat), k + gh = mm.length ∧ s8 = .int .i64 k ∧ s6 = .slice A k c ∧ s7 = .slice B k d ∧ OwnI wx wb.heap.size A k c ((mm.take k).map digA) ∧ OwnI wx wb.heap.size B k d ((mm.take k).map digE) ∧
    (∀ q, blkOf A = some q → blkOf B ≠ some q) ∧ Ext wb wx
theorem apart_ne {A B : Option Addr} (h : ∀ q, blkOf A = some q → blkOf B ≠ some q) : blkOf B = none ∨ blkOf B ≠ blkOf A := by
  cases hB : blkOf B with
  | none => exact .inl rfl
  | some q => exact .inr fun e => h q e.symm hB
theorem apart_swap {A B : Option Addr} (h : ∀ q, blkOf A = some q → blkOf B ≠ some q) : ∀ q, blkOf B = some q → blkOf A ≠ some q := fun q h1 h2 => h q h2 h1

set_option maxHeartbeats 3200000 in
set_option maxRecDepth 100000 in
theorem digits_spec (l m : List Int) (A : Option Addr) (n c : Nat) (A2 : Option Addr) (n2 c2 : Nat) (w : World) (h : IntS w ⟨A, n, c⟩ l) (h2 : ByteS w ⟨A2, n2, c2⟩ m) (hg : Glob w) :
    Calls Tryd.prog 8 #[.slice A n c, .slice A2 n2 c2] w fun e w' => e = .returned (.bool true) ∧ Ext w w' := by
  obtain ⟨hn2, hn3, hn4⟩ := h2.len
  subst hn2
  have HG := Lib.hid hg
  have HM := Lib.hid h2
  have HL := Lib.hid h
  have HDL := Lib.hid (digits_law (made_wf l) (m.take 30) (by simp; omega))
  obtain ⟨mm, hmm⟩ : ∃ mm, m.take 30 = mm := ⟨_, rfl⟩
  have hml : mm.length ≤ 30 ∧ mm.length ≤ m.length ∧ (30 ≤ mm.length ∨ mm.length = m.length) := by rw [← hmm]; simp; omega
  have HMM : Hid (∀ (k : Nat) (hk : k < mm.length) (hk2 : k < m.length), m[k] = mm[k]) := Lib.hid (fun k hk hk2 => by subst hmm; simp)
  rw [hmm] at HDL
  obtain ⟨hml1, hml2, hml3⟩ := hml
  clear hg h h2 hmm
  go_enter Tryd.func8, Tryd.ntmps8
  go_wp2_with fail
  refine Calls.mono (tables_spec l A n c w HL.out HG.out) ?_
  rintro e w1 ⟨t, rfl, ht, hb1⟩
  have hx1 : Ext w1 (w1.alloc (.cells t.v.cells 26)) := (Ext.refl _).alloc_ _
  have HT := Lib.hid (ht.ext_ hx1)
  have HB01 := Lib.hid (hb1.trans' hx1)
  clear ht
  obtain ⟨w2, hw2⟩ : ∃ w2, w2 = (w1.alloc (.cells #[.slice t.s0.a t.s0.n t.s0.c, .slice t.s1.a t.s1.n t.s1.c, .slice t.s2.a t.s2.n t.s2.c, .slice t.s3.a t.s3.n t.s3.c, .slice t.s4.a t.s4.n t.s4.c, .slice t.s5.a t.s5.n t.s5.c, .slice t.s6.a t.s6.n t.s6.c, .slice t.s7.a t.s7.n t.s7.c, .slice t.s8.a t.s8.n t.s8.c, .slice t.s9.a t.s9.n t.s9.c, .slice t.s10.a t.s10.n t.s10.c, .slice t.s11.a t.s11.n t.s11.c] 26)) := ⟨_, rfl⟩
  have HRT : Hid (∀ k : Nat, w2.cell? ⟨w1.heap.size, k, none⟩ = t.v.cells[k]?) := Lib.hid (by rw [hw2]; exact box_at (Ext.refl _))
  have hz2 : w1.heap.size < w2.heap.size := by rw [hw2]; simp
  generalize madeT l = T at *
  go_wp2_with fail
  rw [← hw2]
  have HT : Hid (TblS w2 t T) := Lib.hid (by rw [hw2]; exact HT.out)
  have HB01 : Hid (Ext w w2) := Lib.hid (by rw [hw2]; exact HB01.out)
  clear hw2 hb1 hx1
  go_loopg [6, 7, 8] mm.length (fun gh s6 s7 s8 wx => DgLoop w2 mm gh s6 s7 s8 wx)
  case atStart => exact ⟨0, none, 0, none, 0, by omega, rfl, rfl, rfl, Own.nil_ _ _ _ _, Own.nil_ _ _ _ _, fun q h => (by cases h), Ext.refl _⟩
  case round =>
    obtain ⟨k, A6, c6, A7, c7, hkg, rfl, rfl, rfl, hownA, hownB, hap, hbx⟩ := hrel
    have HOA := Lib.hid hownA
    have HOB := Lib.hid hownB
    have HAP := Lib.hid hap
    have HBX := Lib.hid hbx
    clear hownA hownB hap hbx
    have hk0 : (0 : Int) ≤ (k : Int) := Int.natCast_nonneg _
    by_cases hlt : k < mm.length
    · obtain ⟨gk', rfl⟩ : ∃ g', gk = g' + 1 := ⟨gk - 1, by omega⟩
      have hlm : k < m.length := by omega
      have HTK : Hid (mm.take (k + 1) = mm.take k ++ [m[k]]) := Lib.hid (by rw [HMM.out k hlt hlm, List.take_succ_eq_append_getElem hlt])
      obtain ⟨b, o, ha, hc0, hx0, hx1⟩ := (HM.out.ext HB01.out).at_ hlm
      subst ha
      generalize m[k] = x at *
      have hk1 : (k : Int) < (m.length : Int) := by omega
      have d1 : decide (k < m.length) = true := by rw [decide_eq_true_eq]; omega
      have d2 : decide (k < 30) = true := by rw [decide_eq_true_eq]; omega
      have d3 : decide ((k : Int) < 30) = true := by rw [decide_eq_true_eq]; omega
      obtain ⟨r, hr⟩ : ∃ r, x % 10 = r := ⟨_, rfl⟩
      have hr0 : 0 ≤ r := by rw [← hr]; exact Int.emod_nonneg _ (by decide)
      have hr1 : r < 10 := by rw [← hr]; exact Int.emod_lt_of_pos _ (by decide)
      have htm : x.tmod 10 = r := by rw [← hr]; exact Int.tmod_eq_emod_of_nonneg hx0
      have HDA : Hid (digA x = 1632 + r) := Lib.hid (by rw [digA, hr])
      have HDE : Hid (digE x = 1776 + r) := Lib.hid (by rw [digE, hr])
      clear hr
      obtain ⟨wo, rfl⟩ : ∃ wo : World, wo = wr := ⟨_, rfl⟩
      have hc : wo.cell? ⟨b, o + k, none⟩ = some (.int .u8 x) := keep_cell (ext_keep HBX.out) hc0
      have hx4 : Ext wo (wo.alloc (.cells #[.int .i64 (1632 + r)] 3)) := (Ext.refl _).alloc_ _
      obtain ⟨A5, c5, w5, hrun5, hown5, hgr5, hat5⟩ := append_ints (Own.ext HOA.out hx4) (one_int wo (1632 + r)) (by omega) (by have h' := HBX.out.b.size; simp; omega)
      have HB5 : Hid (Ext w2 w5) := Lib.hid (ext_of_grown (HBX.out.trans' hx4) hgr5 (fun k hk => (Own.lt HOA.out k hk).1))
      have HOB5 : Hid (OwnI w5 w2.heap.size A7 k c7 ((mm.take k).map digE)) := Lib.hid (Own.kept (Own.ext HOB.out hx4) hgr5 (apart_ne HAP.out))
      have HAP5 : Hid (∀ q, blkOf A5 = some q → blkOf A7 ≠ some q) := Lib.hid (fun q h1 h2 => by
        rcases hat5 with h3 | h3
        · exact HAP.out q (h3 ▸ h1) h2
        · have h4 := (Own.lt HOB.out q h2).2
          rw [h3] at h1
          injection h1 with h1
          simp at h1
          omega)
      have HOA5 : Hid (OwnI w5 w2.heap.size A5 (k + 1) c5 ((mm.take (k + 1)).map digA)) := Lib.hid (by rw [HTK.out, List.map_append, List.map_cons, List.map_nil, HDA.out]; exact hown5)
      have hc5 : w5.cell? ⟨b, o + k, none⟩ = some (.int .u8 x) := keep_cell (ext_keep HB5.out) hc0
      have hx5 : Ext w5 (w5.alloc (.cells #[.int .i64 (1776 + r)] 3)) := (Ext.refl _).alloc_ _
      obtain ⟨A9, c9, w9, hrun9, hown9, hgr9, hat9⟩ := append_ints (Own.ext HOB5.out hx5) (one_int w5 (1776 + r)) (by omega) (by have h' := HB5.out.b.size; simp; omega)
      have HB9 : Hid (Ext w2 w9) := Lib.hid (ext_of_grown (HB5.out.trans' hx5) hgr9 (fun k hk => (Own.lt HOB5.out k hk).1))
      have HOA9 : Hid (OwnI w9 w2.heap.size A5 (k + 1) c5 ((mm.take (k + 1)).map digA)) := Lib.hid (Own.kept (Own.ext HOA5.out hx5) hgr9 (apart_ne (apart_swap HAP5.out)))
      have HAP9 : Hid (∀ q, blkOf A5 = some q → blkOf A9 ≠ some q) := Lib.hid (fun q h1 h2 => by
        rcases hat9 with h3 | h3
        · exact HAP5.out q h1 (h3 ▸ h2)
        · have h4 := (Own.lt HOA5.out q h1).2
          rw [h3] at h2
          injection h2 with h2
          simp at h2
          omega)
      have HOB9 : Hid (OwnI w9 w2.heap.size A9 (k + 1) c9 ((mm.take (k + 1)).map digE)) := Lib.hid (by rw [HTK.out, List.map_append, List.map_cons, List.map_nil, HDE.out]; exact hown9)
      clear hc0 hown5 hgr5 hat5 hx4 hown9 hgr9 hat9 hx5
      go_wp2_with (first
        | (at_builtin; refine wpList_run_append rfl _ _ _ rfl _ _ rfl rfl _ _ hrun5 ?_)
        | (at_builtin; refine wpList_run_append rfl _ _ _ rfl _ _ rfl rfl _ _ hrun9 ?_))
      go_roundg gk'
      case measure => omega
      case rel => exact ⟨k + 1, A5, c5, A9, c9, by omega, by go_num, rfl, rfl, HOA9.out, HOB9.out, HAP9.out, HB9.out⟩
    · have hke : k = mm.length := by omega
      subst hke
      have hdd : decide (mm.length < m.length) = true ∧ decide (mm.length < 30) = false ∧ decide ((mm.length : Int) < 30) = false ∨ decide (mm.length < m.length) = false := by
        simp only [decide_eq_true_eq, decide_eq_false_iff_not]
        omega
      have HIA : Hid (IntS wr ⟨A6, mm.length, c6⟩ (mm.map digA)) := Lib.hid (by have h := OwnI.ints HOA.out; rwa [List.take_length] at h)
      have HIB : Hid (IntS wr ⟨A7, mm.length, c7⟩ (mm.map digE)) := Lib.hid (by have h := OwnI.ints HOB.out; rwa [List.take_length] at h)
      have HWR : Hid (∀ k : Nat, wr.cell? ⟨w1.heap.size, k, none⟩ = t.v.cells[k]?) := Lib.hid (fun k => (HBX.out.b.cell (p := ⟨w1.heap.size, k, none⟩) hz2).trans (HRT.out k))
      have rT := HWR.out
      obtain ⟨D1, D2, D3⟩ := HDL.out
      have HD1 := Lib.hid D1
      have HD2 := Lib.hid D2
      have HD3 := Lib.hid D3
      have HLE : Hid ((mm.map digA).length = mm.length ∧ (mm.map digE).length = mm.length) := Lib.hid ⟨by simp, by simp⟩
      generalize mm.map digA = LA at *
      generalize mm.map digE = LE at *
      clear D1 D2 D3 hlt HOA HOB HAP
      obtain ⟨g, HDG, hg⟩ : ∃ g, Hid (ccheck T (LA ++ LE) = (0, g)) ∧ (g = 18 ∧ decide (0 < mm.length) = true ∧ decide ((0 : Int) < (mm.length : Int)) = true ∨ g = 0 ∧ decide (0 < mm.length) = false ∧ decide ((0 : Int) < (mm.length : Int)) = false) := by
        rcases Nat.eq_zero_or_pos mm.length with hz | hz
        · exact ⟨0, Lib.hid (by rw [HD3.out, if_neg (by omega)]), .inr ⟨rfl, by rw [decide_eq_false_iff_not]; omega, by rw [decide_eq_false_iff_not]; omega⟩⟩
        · exact ⟨18, Lib.hid (by rw [HD3.out, if_pos hz]), .inl ⟨rfl, by rw [decide_eq_true_eq]; exact hz, by rw [decide_eq_true_eq]; omega⟩⟩
      clear HD3 HDL
      rcases hdd with ⟨d1, d2, d3⟩ | d1 <;> rcases hg with ⟨rfl, d4, d5⟩ | ⟨rfl, d4, d5⟩
      all_goals
        go_wp2_with fail
        refine (ccheck_spec t T LA A6 _ c6 wr (HT.out.ext_ HBX.out) HIA.out).mono ?_
        rintro e w3 ⟨rfl, hb3⟩
        rw [HD1.out]
        have rT3 : ∀ k : Nat, w3.cell? ⟨w1.heap.size, k, none⟩ = t.v.cells[k]? := fun k => ((HBX.out.trans' hb3).b.cell (p := ⟨w1.heap.size, k, none⟩) hz2).trans (HRT.out k)
        have HB3 := Lib.hid (HBX.out.trans' hb3)
        have HIA3 := Lib.hid (HIA.out.ext hb3)
        have HIB3 := Lib.hid (HIB.out.ext hb3)
        clear hb3
        go_wp2_with fail
        refine (ccheck_spec t T LE A7 _ c7 w3 (HT.out.ext_ HB3.out) HIB3.out).mono ?_
        rintro e w4 ⟨rfl, hb4⟩
        rw [HD2.out]
        have HB4 := Lib.hid (HB3.out.trans' hb4)
        have HIA4 := Lib.hid (HIA3.out.ext hb4)
        have HIB4 := Lib.hid (HIB3.out.ext hb4)
        have HRT4 : Hid (∀ (wx : World), Ext w4 wx → ∀ k : Nat, wx.cell? ⟨w1.heap.size, k, none⟩ = t.v.cells[k]?) := Lib.hid (fun wx hx k => ((HB4.out.trans' hx).b.cell (p := ⟨w1.heap.size, k, none⟩) hz2).trans (HRT.out k))
        have rT4 := HRT4.out w4.drew (Ext.refl _).drew_
        clear rT3 hb4
        go_wp2_with fail
        go_region_law (first
          | (refine step_append_ints (by rfl) _ _ (by rfl) w4.heap.size (by rfl) (show OwnI w4.drew w4.heap.size none 0 0 [] from Own.nil_ _ _ _ _) (by rfl) (HIA4.out.ext (Ext.refl _).drew_) (by omega) (Nat.le_refl _) ?_
             intro A5 c5 w5 hown5 hgr5 hat5
             simp only [Nat.zero_add, List.nil_append] at hown5
             have HX5 : Hid (Ext w4 w5) := Lib.hid (ext_of_grown (Ext.refl _).drew_ hgr5 (fun k hk => by cases hk))
             have rT5 := HRT4.out w5 HX5.out)
          | (refine step_append_ints (by rfl) _ _ (by rfl) w4.heap.size (by rfl) hown5 (by rfl) (HIB4.out.ext HX5.out) (by omega) HX5.out.b.size ?_
             intro A8 c8 w8 hown8 hgr8 hat8
             have HX8 : Hid (Ext w4 w8) := Lib.hid (ext_of_grown HX5.out hgr8 (fun k hk => (Own.lt hown5 k hk).1))
             have rT8 := HRT4.out w8 HX8.out)
          | (go_simp
             go_at_call 19
             refine (ccheck_spec t T (LA ++ LE) A8 _ c8 w8 (HT.out.ext_ (HB4.out.trans' HX8.out)) (OwnI.ints hown8)).mono ?_
             rintro e w9 ⟨rfl, hb9⟩
             rw [HDG.out]
             have HB9 := Lib.hid (HB4.out.trans' (HX8.out.trans' hb9))))
        all_goals
          go_wp2_with fail
          refine (cawake_spec w9 (HG.out.ext (HB01.out.trans' HB9.out))).mono ?_
          rintro e w10 ⟨rfl, hb10⟩
          go_wp2_with fail
          go_ret
          exact ⟨rfl, (HB01.out.trans' HB9.out).trans' hb10⟩
end Go.Proofs.YtgfdecfcbnnemaaDoor
