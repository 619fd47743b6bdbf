/- The law ValidHyphens. (By program: hy_gen.py.) -/
import Derived.Test.YtbdabjhankgcmaaDoorHb
import Derived.Test.YtbdabjhankgcmaaDoorHv
import Derived.Test.YtbdabjhankgcmaaDoorBy
import Derived.Test.YtbdabjhankgcmaaDoorKd
import Derived.Deep.LoopGhost
namespace Go.Proofs.YtbdabjhankgcmaaDoor
open Go.RowKit
def hyL : List Int := [45, 97, 45, 98]
def hyk (x : Int) : Int := hyL.getD (x % 4).toNat 0
def HyLoop (wb : World) (mm : List Int) (gh : Nat) (s4 s5 : Value) (wx : World) : Prop :=
 ∃ (k : Nat) (A : Option Addr) (c : Nat), k + gh = mm.length ∧ s5 = .int .i64 k ∧ s4 = .slice A k c ∧ OwnI wx wb.heap.size A k c ((mm.take k).map hyk) ∧ Ext wb wx
set_option maxHeartbeats 6400000 in
set_option maxRecDepth 100000 in
theorem vhyphens_spec (m : List Int) (A2 : Option Addr) (n2 c2 : Nat) (w : World) (h2 : ByteS w ⟨A2, n2, c2⟩ m) (hg : Glob w) :
  Calls Tryd.prog 3 #[.slice A2 n2 c2] w fun e w' => e = .returned (.bool true) ∧ Ext w w' := by
 obtain ⟨hn2, hn3, hn4⟩ := h2.len
 subst hn2
 have HG := Lib.hid hg
 have HM := Lib.hid h2
 obtain ⟨mm, hmm⟩ : ∃ mm, m.take 8 = mm := ⟨_, rfl⟩
 have hml : mm.length ≤ 8 ∧ mm.length ≤ m.length ∧ (8 ≤ mm.length ∨ mm.length = m.length) := by rw [← hmm]; simp; omega
 have HMM : Hid (∀ (k : Nat) (hk : k < mm.length) (hk2 : k < m.length), m[k] = mm[k]) := Lib.hid (fun k hk hk2 => by subst hmm; simp)
 obtain ⟨hml1, hml2, hml3⟩ := hml
 clear hg h2 hmm
 go_enter Tryd.func3, Tryd.ntmps3
 go_wp2_with fail
 go_loopg [3, 4] mm.length (fun gh s4 s5 wx => HyLoop w mm gh s4 s5 wx)
 case atStart => exact ⟨0, none, 0, by omega, rfl, rfl, Own.nil_ _ _ _ _, Ext.refl _⟩
 case round =>
  obtain ⟨k, A4, c4, hkg, rfl, rfl, hown, hbx⟩ := hrel
  have HO := Lib.hid hown
  have HBX := Lib.hid hbx
  clear hown hbx
  have hk0 : (0 : Int) ≤ (k : Int) := Int.natCast_nonneg _
  by_cases hlt : k < mm.length
  ·obtain ⟨gk', rfl⟩ : ∃ g', gk = g' + 1 := ⟨gk - 1, by omega⟩
   have hlm : k < m.length := by omega
   have HTK : Hid ((mm.take (k + 1)).map hyk = (mm.take k).map hyk ++ [hyk m[k]]) := Lib.hid (by rw [HMM.out k hlt hlm, List.take_succ_eq_append_getElem hlt, List.map_append]; rfl)
   obtain ⟨wo, rfl⟩ : ∃ wo : World, wo = wr := ⟨_, rfl⟩
   obtain ⟨b, o, ha, hc0, hx0, hx1⟩ := (HM.out.ext HBX.out).at_ hlm
   subst ha
   generalize m[k] = x at *
   have hk1 : (k : Int) < (m.length : Int) := by omega
   have d1 : decide (k < m.length) = true := by rw [decide_eq_true_eq]; omega
   have d2 : decide (k < 8) = true := by rw [decide_eq_true_eq]; omega
   have d3 : decide ((k : Int) < 8) = true := by rw [decide_eq_true_eq]; omega
   have hr0 := Int.emod_nonneg x (show (4 : Int) ≠ 0 by decide)
   have hr1 := Int.emod_lt_of_pos x (show (0 : Int) < 4 by decide)
   obtain ⟨v, hv⟩ : ∃ v : Nat, x % 4 = v := ⟨(x % 4).toNat, by omega⟩
   have hv4 : v < 4 := by omega
   have htm : x.tmod 4 = (v : Int) := by rw [← hv]; exact Int.tmod_eq_emod_of_nonneg hx0
   obtain ⟨y, hy⟩ : ∃ y, hyL.getD v 0 = y := ⟨_, rfl⟩
   have HJ : Hid (hyk x = y) := Lib.hid (by rw [hyk, hv, Int.toNat_natCast, hy])
   obtain ⟨w3, hw3⟩ : ∃ w3, w3 = wo.alloc (.cells #[.int .i64 45, .int .i64 97, .int .i64 45, .int .i64 98] 3) := ⟨_, rfl⟩
   have hcell : w3.cell? ⟨wo.heap.size, v, none⟩ = some (.int .i64 y) := by
    rw [hw3, World.cell?_alloc_new, ← hy]
    match v, hv4 with
    | 0, _ | 1, _ | 2, _ | 3, _ => rfl
    | n + 4, h => exact absurd h (by omega)
   have hz3 : w3.heap.size = wo.heap.size + 1 := by rw [hw3]; simp
   have HX3 : Hid (Ext wo w3) := Lib.hid (by rw [hw3]; exact (Ext.refl _).alloc_ _)
   have hc3 : w3.cell? ⟨b, o + k, none⟩ = some (.int .u8 x) := keep_cell (ext_keep HX3.out) hc0
   have hv0 : (0 : Int) ≤ (v : Int) := Int.natCast_nonneg _
   have hv1 : (v : Int) < 4 := by omega
   have hx4 : Ext w3 (w3.alloc (.cells #[.int .i64 y] 3)) := (Ext.refl _).alloc_ _
   obtain ⟨A5, c5, w5, hrun5, hown5, hgr5, hat5⟩ := append_ints (Own.ext HO.out (HX3.out.trans' hx4)) (one_int' hz3 y) (by omega) (by have h' := (HBX.out.trans' HX3.out).b.size; simp; omega)
   have HB5 : Hid (Ext w w5) := Lib.hid (ext_of_grown (HBX.out.trans' (HX3.out.trans' hx4)) hgr5 (fun k hk => (Own.lt HO.out k hk).1))
   have HO5 : Hid (OwnI w5 w.heap.size A5 (k + 1) c5 ((mm.take (k + 1)).map hyk)) := Lib.hid (by rw [HTK.out, HJ.out]; exact hown5)
   rw [hw3] at hrun5 hcell hc3
   clear hc0 hown5 hgr5 hat5 hx4 hv hr0 hr1 hy hw3 HX3 hz3
   go_wp2_with (at_builtin; refine wpList_run_append rfl _ _ _ rfl _ _ rfl rfl _ _ hrun5 ?_)
   go_roundg gk'
   case measure => omega
   case rel => exact ⟨k + 1, A5, c5, by omega, by go_num, rfl, HO5.out, HB5.out⟩
  ·have hke : k = mm.length := by omega
   subst hke
   have hdd : decide (mm.length < m.length) = true ∧ decide (mm.length < 8) = false ∧ decide ((mm.length : Int) < 8) = false ∨ decide (mm.length < m.length) = false := by
    simp only [decide_eq_true_eq, decide_eq_false_iff_not]
    omega
   have HIA0 : Hid (IntS wr ⟨A4, mm.length, c4⟩ (mm.map hyk)) := Lib.hid (by have h := OwnI.ints HO.out; rwa [List.take_length] at h)
   obtain ⟨L, hL⟩ : ∃ L, mm.map hyk = L := ⟨_, rfl⟩
   have hLn : mm.length = L.length := by rw [← hL]; simp
   rw [hL, hLn] at HIA0
   have HIA := HIA0
   rw [hLn] at hdd hml1
   rw [hLn]
   clear hlt HO hL hLn HMM HM HIA0 hml2 hml3 hkg hk0
   have HHY := Lib.hid (fun w' (hb : Ext wr w') => hyphens_spec L A4 _ c4 w' (HIA.out.ext hb))
   obtain ⟨V, hV⟩ : ∃ V, hypB L = V := ⟨_, rfl⟩
   have HV := Lib.hid hV
   rw [hV] at HHY
   clear hV
   by_cases hl : L.length = 0
   ·have HG0 : Hid (V = true) := Lib.hid (by rw [← HV.out, hypB, atV_out (.inr (by omega)), atV_out (.inl (by omega)), atV_out (.inr (by omega)), atV_out (.inr (by omega))]; rfl)
    have e1 : (L.length == 0) = true := by rw [beq_iff_eq]; exact hl
    have e2 : ((L.length : Int) == 0) = true := by rw [beq_iff_eq]; omega
    have e3 : decide (4 ≤ L.length) = false := by rw [decide_eq_false_iff_not]; omega
    have e4 : decide ((4 : Int) ≤ (L.length : Int)) = false := by rw [decide_eq_false_iff_not]; omega
    rw [HG0.out] at HHY
    clear hl
    rcases hdd with ⟨d1, d2, d3⟩ | d1
    all_goals
     go_wp2_with fail
     refine (vawake_spec _ (HG.out.ext HBX.out)).mono ?_
     rintro e w6 ⟨rfl, hb6⟩
     go_wp2_with fail
     refine (HHY.out _ hb6).mono ?_
     rintro e w7 ⟨rfl, hb7⟩
     have hx := HBX.out.trans' (hb6.trans' hb7)
     go_wp2_with fail
     go_ret
     exact ⟨rfl, hx⟩
   obtain ⟨m', hm⟩ : ∃ m', L.length = m' + 1 := ⟨L.length - 1, by omega⟩
   have e1 : (L.length == 0) = false := by rw [beq_eq_false_iff_ne]; exact hl
   have e2 : ((L.length : Int) == 0) = false := by rw [beq_eq_false_iff_ne]; omega
   have hsub : (L.length : Int) - 1 = (m' : Int) := by omega
   have hml : m' < L.length := by omega
   obtain ⟨b, o, hA, c0⟩ := HIA.out.at_ (i := 0) (by omega)
   subst hA
   obtain ⟨b', o', hA', c1⟩ := HIA.out.at_ (i := m') hml
   injection hA' with hA'
   injection hA' with q1 q2
   subst q1 q2
   rw [Nat.add_zero] at c0
   have H0 : atV L 0 = L[0] := atV_in (i := 0) (by omega)
   have H1 : atV L ((L.length : Int) - 1) = L[m'] := by rw [hsub]; exact atV_in hml
   have HF : Hid (V = (L[0] != 45 && L[m'] != 45 && !(atV L 2 == 45 && atV L 3 == 45))) := Lib.hid (by rw [← HV.out, hypB, H0, H1])
   have hm0 : (0 : Int) ≤ (m' : Int) := Int.natCast_nonneg _
   have hm1 : (m' : Int) < (L.length : Int) := by omega
   have hl1 : (0 : Int) < (L.length : Int) := by omega
   clear H0 H1 hl HV
   generalize L[0] = y0 at *
   generalize L[m'] = y1 at *
   have c0' : ∀ yy : ExtW wr, yy.w.cell? ⟨b, o, none⟩ = some (.int .i64 y0) := ext_cell c0
   have c1' : ∀ yy : ExtW wr, yy.w.cell? ⟨b, o + m', none⟩ = some (.int .i64 y1) := ext_cell c1
   by_cases h4 : L.length < 4
   ·have HF2 : Hid (V = (y0 != 45 && y1 != 45)) := Lib.hid (by rw [HF.out, atV_out (i := 3) (.inr (by omega)), show ((-1 : Int) == 45) = false from rfl, Bool.and_false, Bool.not_false, Bool.and_true])
    have g1 : decide (4 ≤ L.length) = false := by rw [decide_eq_false_iff_not]; omega
    have g2 : decide ((4 : Int) ≤ (L.length : Int)) = false := by rw [decide_eq_false_iff_not]; omega
    clear HF hm h4 hml
    rcases hdd with ⟨d1, d2, d3⟩ | d1
    all_goals
     cases e3 : (y0 != 45) <;> cases e4 : (y1 != 45)
    all_goals
     have HG0 := Lib.hid HF2.out
     rw [e3, e4] at HG0
     rw [HG0.out] at HHY
     go_wp2_with fail
     refine (vawake_spec _ (HG.out.ext HBX.out)).mono ?_
     rintro e w6 ⟨rfl, hb6⟩
     go_wp2_with fail
     refine (HHY.out _ hb6).mono ?_
     rintro e w7 ⟨rfl, hb7⟩
     have hx := HBX.out.trans' (hb6.trans' hb7)
     go_wp2_with fail
     go_ret
     exact ⟨rfl, hx⟩
   ·have g1 : decide (4 ≤ L.length) = true := by rw [decide_eq_true_eq]; omega
    have g2 : decide ((4 : Int) ≤ (L.length : Int)) = true := by rw [decide_eq_true_eq]; omega
    have h2l : 2 < L.length := by omega
    have h3l : 3 < L.length := by omega
    obtain ⟨b', o', hA', c2⟩ := HIA.out.at_ (i := 2) h2l
    injection hA' with hA'
    injection hA' with q1 q2
    subst q1 q2
    obtain ⟨b', o', hA', c3⟩ := HIA.out.at_ (i := 3) h3l
    injection hA' with hA'
    injection hA' with q1 q2
    subst q1 q2
    have HF2 : Hid (V = (y0 != 45 && y1 != 45 && !(L[2] == 45 && L[3] == 45))) := Lib.hid (by rw [HF.out, show atV L 2 = L[2] from atV_in (i := 2) h2l, show atV L 3 = L[3] from atV_in (i := 3) h3l])
    generalize L[2] = y2 at *
    generalize L[3] = y3 at *
    have c2' : ∀ yy : ExtW wr, yy.w.cell? ⟨b, o + 2, none⟩ = some (.int .i64 y2) := ext_cell c2
    have c3' : ∀ yy : ExtW wr, yy.w.cell? ⟨b, o + 3, none⟩ = some (.int .i64 y3) := ext_cell c3
    have hl2 : (2 : Int) < (L.length : Int) := by omega
    have hl3 : (3 : Int) < (L.length : Int) := by omega
    clear HF hm h4 hml h2l h3l
    rcases hdd with ⟨d1, d2, d3⟩ | d1
    all_goals
     cases e3 : (y0 != 45) <;> cases e4 : (y1 != 45) <;> cases e5 : (y2 == 45) <;> cases e6 : (y3 == 45)
    all_goals
     have HG0 := Lib.hid HF2.out
     rw [e3, e4, e5, e6] at HG0
     rw [HG0.out] at HHY
     go_wp2_with fail
     refine (vawake_spec _ (HG.out.ext HBX.out)).mono ?_
     rintro e w6 ⟨rfl, hb6⟩
     go_wp2_with fail
     refine (HHY.out _ hb6).mono ?_
     rintro e w7 ⟨rfl, hb7⟩
     have hx := HBX.out.trans' (hb6.trans' hb7)
     go_wp2_with fail
     go_ret
     exact ⟨rfl, hx⟩
end Go.Proofs.YtbdabjhankgcmaaDoor
