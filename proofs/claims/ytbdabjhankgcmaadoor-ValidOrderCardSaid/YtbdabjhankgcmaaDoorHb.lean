/- Walks: valid.Hyphens and the reference's Hyphens. (By program: hb_gen.py.) -/
import Derived.Test.YtbdabjhankgcmaaDoorGa
namespace Go.Proofs.YtbdabjhankgcmaaDoor
open Go.RowKit
def atV (l : List Int) (i : Int) : Int := if i < 0 then -1 else if (l.length : Int) ≤ i then -1 else l.getD i.toNat 0
def hypB (l : List Int) : Bool := atV l 0 != 45 && atV l ((l.length : Int) - 1) != 45 && !(atV l 2 == 45 && atV l 3 == 45)
theorem atV_in {l : List Int} {i : Nat} (h : i < l.length) : atV l (i : Int) = l[i] := by rw [atV, if_neg (by omega), if_neg (by omega), Int.toNat_natCast, getD_lt l i 0 h]
theorem atV_out {l : List Int} {i : Int} (h : i < 0 ∨ (l.length : Int) ≤ i) : atV l i = -1 := by
 unfold atV
 by_cases h1 : i < 0
 ·rw [if_pos h1]
 ·rw [if_neg h1, if_pos (by omega)]
set_option maxHeartbeats 3200000 in
set_option maxRecDepth 100000 in
theorem hyphens_spec (l : List Int) (A : Option Addr) (n c : Nat) (w : World) (h : IntS w ⟨A, n, c⟩ l) :
  Calls Tryd.prog 7 #[.slice A n c] w fun e w' => e = .returned (.bool (hypB l)) ∧ Ext w w' := by
 have HI := Lib.hid h
 obtain ⟨hn, hcap, hmx⟩ := h.len
 have hm9 : (l.length : Int) ≤ 9223372036854775807 := by omega
 subst hn
 clear h hcap hmx
 by_cases hl : l.length = 0
 ·have HG : Hid (hypB l = true) := Lib.hid (by rw [hypB, atV_out (.inr (by omega)), atV_out (.inl (by omega)), atV_out (.inr (by omega)), atV_out (.inr (by omega))]; rfl)
  have e1 : (l.length == 0) = true := by rw [beq_iff_eq]; exact hl
  have e2 : ((l.length : Int) == 0) = true := by rw [beq_iff_eq]; omega
  clear hl
  go_enter Tryd.func7, Tryd.ntmps7
  go_wp2_with fail
  first
   | (refine region_ext (by kernel_rfl) (by kernel_rfl) ?_
      repeat (go_big_quiet_step (fail))
      refine wpQuiet_nil ?_
      rintro _ ⟨x, rfl⟩
      have hx := x.h
      go_wp2_with fail
      go_ret
      exact ⟨ret_bool HG.out.symm, hx⟩)
   | (go_ret
      exact ⟨ret_bool HG.out.symm, Ext.refl _⟩)
 obtain ⟨m, hm⟩ : ∃ m, l.length = m + 1 := ⟨l.length - 1, by omega⟩
 have e1 : (l.length == 0) = false := by rw [beq_eq_false_iff_ne]; exact hl
 have e2 : ((l.length : Int) == 0) = false := by rw [beq_eq_false_iff_ne]; omega
 have hsub : (l.length : Int) - 1 = (m : Int) := by omega
 have hml : m < l.length := by omega
 obtain ⟨b, o, hA, c0⟩ := HI.out.at_ (i := 0) (by omega)
 subst hA
 obtain ⟨b', o', hA', c1⟩ := HI.out.at_ (i := m) hml
 injection hA' with hA'
 injection hA' with q1 q2
 subst q1 q2
 rw [Nat.add_zero] at c0
 have H0 : atV l 0 = l[0] := atV_in (i := 0) (by omega)
 have H1 : atV l ((l.length : Int) - 1) = l[m] := by rw [hsub]; exact atV_in hml
 have HF : Hid (hypB l = (l[0] != 45 && l[m] != 45 && !(atV l 2 == 45 && atV l 3 == 45))) := Lib.hid (by rw [hypB, H0, H1])
 have hm0 : (0 : Int) ≤ (m : Int) := Int.natCast_nonneg _
 have hm1 : (m : Int) < (l.length : Int) := by omega
 have hl1 : (0 : Int) < (l.length : Int) := by omega
 clear H0 H1 hl
 generalize l[0] = y0 at *
 generalize l[m] = y1 at *
 have c0' : ∀ yy : ExtW w, yy.w.cell? ⟨b, o, none⟩ = some (.int .i64 y0) := ext_cell c0
 have c1' : ∀ yy : ExtW w, yy.w.cell? ⟨b, o + m, none⟩ = some (.int .i64 y1) := ext_cell c1
 by_cases h4 : l.length < 4
 ·have HF2 : Hid (hypB l = (y0 != 45 && y1 != 45)) := Lib.hid (by rw [HF.out, atV_out (i := 3) (.inr (by omega)), show ((-1 : Int) == 45) = false from rfl, Bool.and_false, Bool.not_false, Bool.and_true])
  have d1 : decide (l.length < 4) = true := decide_eq_true h4
  have d2 : decide ((l.length : Int) < 4) = true := decide_eq_true (by omega)
  clear HF hm h4 hml
  cases e3 : (y0 != 45) <;> cases e4 : (y1 != 45)
  all_goals
   have HG := Lib.hid HF2.out
   rw [e3, e4] at HG
   go_enter Tryd.func7, Tryd.ntmps7
   go_wp2_with fail
   first
    | (refine region_ext (by kernel_rfl) (by kernel_rfl) ?_
       repeat (go_big_quiet_step (fail))
       refine wpQuiet_nil ?_
       rintro _ ⟨x, rfl⟩
       have hx := x.h
       go_wp2_with fail
       go_ret
       exact ⟨ret_bool HG.out.symm, hx⟩)
    | (go_ret
       exact ⟨ret_bool HG.out.symm, Ext.refl _⟩)
 ·have d1 : decide (l.length < 4) = false := decide_eq_false h4
  have d2 : decide ((l.length : Int) < 4) = false := decide_eq_false (by omega)
  have h2l : 2 < l.length := by omega
  have h3l : 3 < l.length := by omega
  obtain ⟨b', o', hA', c2⟩ := HI.out.at_ (i := 2) h2l
  injection hA' with hA'
  injection hA' with q1 q2
  subst q1 q2
  obtain ⟨b', o', hA', c3⟩ := HI.out.at_ (i := 3) h3l
  injection hA' with hA'
  injection hA' with q1 q2
  subst q1 q2
  have HF2 : Hid (hypB l = (y0 != 45 && y1 != 45 && !(l[2] == 45 && l[3] == 45))) := Lib.hid (by rw [HF.out, show atV l 2 = l[2] from atV_in (i := 2) h2l, show atV l 3 = l[3] from atV_in (i := 3) h3l])
  generalize l[2] = y2 at *
  generalize l[3] = y3 at *
  have c2' : ∀ yy : ExtW w, yy.w.cell? ⟨b, o + 2, none⟩ = some (.int .i64 y2) := ext_cell c2
  have c3' : ∀ yy : ExtW w, yy.w.cell? ⟨b, o + 3, none⟩ = some (.int .i64 y3) := ext_cell c3
  have hl2 : (2 : Int) < (l.length : Int) := by omega
  have hl3 : (3 : Int) < (l.length : Int) := by omega
  clear HF hm h4 hml h2l h3l
  cases e3 : (y0 != 45) <;> cases e4 : (y1 != 45) <;> cases e5 : (y2 != 45) <;> cases e6 : (y3 != 45)
  all_goals
   have HG := Lib.hid HF2.out
   have e5' := e5
   have e6' := e6
   simp only [bne, Bool.not_eq_false', Bool.not_eq_true'] at e5' e6'
   rw [e3, e4, e5', e6'] at HG
   clear e5' e6'
   go_enter Tryd.func7, Tryd.ntmps7
   go_wp2_with fail
   first
    | (refine region_ext (by kernel_rfl) (by kernel_rfl) ?_
       repeat (go_big_quiet_step (fail))
       refine wpQuiet_nil ?_
       rintro _ ⟨x, rfl⟩
       have hx := x.h
       go_wp2_with fail
       go_ret
       exact ⟨ret_bool HG.out.symm, hx⟩)
    | (go_ret
       exact ⟨ret_bool HG.out.symm, Ext.refl _⟩)
end Go.Proofs.YtbdabjhankgcmaaDoor
