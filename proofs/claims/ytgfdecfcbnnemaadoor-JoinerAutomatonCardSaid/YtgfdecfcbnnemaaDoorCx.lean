/- Walks: context. -/
import Derived.Test.YtgfdecfcbnnemaaDoorJ
namespace Go.Proofs.YtgfdecfcbnnemaaDoor
open Go.RowKit

def arabB (c : Int) : Bool := decide (1632 ≤ c) && decide (c ≤ 1641)
def extdB (c : Int) : Bool := decide (1776 ≤ c) && decide (c ≤ 1785)
def ctxIs (c : Int) : Bool := c == 183 || c == 885 || c == 1523 || c == 1524 || c == 12539 || arabB c || extdB c
def hasB (T : Tbl) (l : List Int) (i s : Int) : Bool := decide (0 ≤ i) && decide (i < (l.length : Int)) && scrT T (l.getD i.toNat 0) == s
def japB (T : Tbl) (c : Int) : Bool := scrT T c == 7 || scrT T c == 8 || scrT T c == 6
def dotB (l : List Int) (i : Nat) : Bool := decide (0 < i) && decide (i + 1 < l.length) && l.getD (i - 1) 0 == 108 && l.getD (i + 1) 0 == 108
def cper (T : Tbl) (l : List Int) (i : Nat) : Bool :=
  if (l.getD i 0 == 183) = true then dotB l i
  else if (l.getD i 0 == 885) = true then hasB T l ((i : Int) + 1) 4
  else if (l.getD i 0 == 1523 || l.getD i 0 == 1524) = true then hasB T l ((i : Int) - 1) 11
  else if (l.getD i 0 == 12539) = true then l.any (japB T)
  else if arabB (l.getD i 0) = true then !l.any extdB
  else if extdB (l.getD i 0) = true then !l.any arabB
  else true
def cpermB (T : Tbl) (l : List Int) (i : Int) : Bool := existsB T l i && cper T l i.toNat
def cchk (T : Tbl) (l : List Int) : Nat → Nat → Int × Int
  | 0, _ => (0, 0)
  | n + 1, i => if cper T l i = true then cchk T l n (i + 1) else (i, 18)
def ccheck (T : Tbl) (l : List Int) : Int × Int := if ordErr T l = 0 then cchk T l l.length 0 else (0, ordErr T l)

theorem arabic_spec (c : Int) (w : World) : Calls Tryd.prog 40 #[.int .i64 c] w fun e w' => e = .returned (.bool (arabB c)) ∧ w = w' := by
  obtain ⟨b1, h1⟩ : ∃ b, decide (1632 ≤ c) = b := ⟨_, rfl⟩
  obtain ⟨b2, h2⟩ : ∃ b, decide (c ≤ 1641) = b := ⟨_, rfl⟩
  have HF : Hid (arabB c = (b1 && b2)) := Lib.hid (by rw [arabB, h1, h2])
  cases b1 <;> cases b2
  all_goals
    go_enter Tryd.func40, Tryd.ntmps40
    go_wp2_with fail
    go_ret
    exact ⟨ret_bool HF.out.symm, rfl⟩

theorem extended_spec (c : Int) (w : World) : Calls Tryd.prog 41 #[.int .i64 c] w fun e w' => e = .returned (.bool (extdB c)) ∧ w = w' := by
  obtain ⟨b1, h1⟩ : ∃ b, decide (1776 ≤ c) = b := ⟨_, rfl⟩
  obtain ⟨b2, h2⟩ : ∃ b, decide (c ≤ 1785) = b := ⟨_, rfl⟩
  have HF : Hid (extdB c = (b1 && b2)) := Lib.hid (by rw [extdB, h1, h2])
  cases b1 <;> cases b2
  all_goals
    go_enter Tryd.func41, Tryd.ntmps41
    go_wp2_with fail
    go_ret
    exact ⟨ret_bool HF.out.symm, rfl⟩

set_option maxHeartbeats 1600000 in
theorem ctxIs_spec (c : Int) (w : World) : Calls Tryd.prog 18 #[.int .i64 c] w fun e w' => e = .returned (.bool (ctxIs c)) ∧ w = w' := by
  by_cases hx : c = 183 ∨ c = 885 ∨ c = 1523 ∨ c = 1524 ∨ c = 12539
  · have HF : Hid (ctxIs c = true) := Lib.hid (by rcases hx with rfl | rfl | rfl | rfl | rfl <;> rfl)
    rcases hx with rfl | rfl | rfl | rfl | rfl
    all_goals
      go_enter Tryd.func18, Tryd.ntmps18
      go_wp2_with fail
      go_ret
      exact ⟨ret_bool HF.out.symm, rfl⟩
  · simp only [not_or] at hx
    obtain ⟨n1, n2, n3, n4, n5⟩ := hx
    have e1 : (c == 183) = false := by rw [beq_eq_false_iff_ne]; exact n1
    have e2 : (c == 885) = false := by rw [beq_eq_false_iff_ne]; exact n2
    have e3 : (c == 1523) = false := by rw [beq_eq_false_iff_ne]; exact n3
    have e4 : (c == 1524) = false := by rw [beq_eq_false_iff_ne]; exact n4
    have e5 : (c == 12539) = false := by rw [beq_eq_false_iff_ne]; exact n5
    have HF : Hid (ctxIs c = (arabB c || extdB c)) := Lib.hid (by simp only [ctxIs, e1, e2, e3, e4, e5, Bool.false_or])
    clear n1 n2 n3 n4 n5
    cases h1 : arabB c <;> cases h2 : extdB c
    all_goals
      have H1 := Lib.hid h1
      have H2 := Lib.hid h2
      have HF2 := Lib.hid (HF.out.trans (by rw [h1, h2]))
      clear h1 h2 HF
      go_enter Tryd.func18, Tryd.ntmps18
      go_wp2_with (first
        | (go_at_call 40; refine (arabic_spec _ _).mono ?_; rintro e w1 ⟨rfl, rfl⟩; rw [H1.out])
        | (go_at_call 41; refine (extended_spec _ _).mono ?_; rintro e w1 ⟨rfl, rfl⟩; rw [H2.out]))
      go_ret
      exact ⟨ret_bool HF2.out.symm, rfl⟩

set_option maxHeartbeats 1600000 in
set_option maxRecDepth 100000 in
theorem japanese_spec (t : TV) (T : Tbl) (c : Int) (w : World) (ht : TblS w t T) (hs : Srt T) :
    Calls Tryd.prog 54 #[t.v, .int .i64 c] w fun e w' => e = .returned (.bool (japB T c)) ∧ Ext w w' := by
  have HT := Lib.hid ht
  have hba : Ext w (w.alloc (.cells #[.slice t.s0.a t.s0.n t.s0.c, .slice t.s1.a t.s1.n t.s1.c, .slice t.s2.a t.s2.n t.s2.c, .slice t.s3.a t.s3.n t.s3.c, .slice t.s4.a t.s4.n t.s4.c, .slice t.s5.a t.s5.n t.s5.c, .slice t.s6.a t.s6.n t.s6.c, .slice t.s7.a t.s7.n t.s7.c, .slice t.s8.a t.s8.n t.s8.c, .slice t.s9.a t.s9.n t.s9.c, .slice t.s10.a t.s10.n t.s10.c, .slice t.s11.a t.s11.n t.s11.c] 26)) := (Ext.refl _).alloc_ _
  have HF : Hid (∀ v, scrT T c = v → japB T c = (v == 7 || v == 8 || v == 6)) := Lib.hid (by rintro v rfl; rfl)
  obtain ⟨v, hv⟩ : ∃ v, scrT T c = v := ⟨_, rfl⟩
  have HV := Lib.hid hv
  have HG := Lib.hid (HF.out v hv)
  clear HF hv
  by_cases hx : v = 7 ∨ v = 8 ∨ v = 6
  · rcases hx with rfl | rfl | rfl
    all_goals
      have HG2 : Hid (japB T c = true) := Lib.hid HG.out
      go_enter Tryd.func54, Tryd.ntmps54
      go_wp2_with (go_at_call 60; refine (script_spec t T c _ (HT.out.ext_ hba) hs).mono ?_; rintro e w1 ⟨rfl, hb1⟩; rw [HV.out])
      go_ret
      exact ⟨ret_bool HG2.out.symm, hba.trans' hb1⟩
  · simp only [not_or] at hx
    obtain ⟨n1, n2, n3⟩ := hx
    have e1 : (v == 7) = false := by rw [beq_eq_false_iff_ne]; exact n1
    have e2 : (v == 8) = false := by rw [beq_eq_false_iff_ne]; exact n2
    have e3 : (v == 6) = false := by rw [beq_eq_false_iff_ne]; exact n3
    have HG2 : Hid (japB T c = false) := Lib.hid (by rw [HG.out, e1, e2, e3]; rfl)
    clear n1 n2 n3 HG
    go_enter Tryd.func54, Tryd.ntmps54
    go_wp2_with (go_at_call 60; refine (script_spec t T c _ (HT.out.ext_ hba) hs).mono ?_; rintro e w1 ⟨rfl, hb1⟩; rw [HV.out])
    go_ret
    exact ⟨ret_bool HG2.out.symm, hba.trans' hb1⟩

set_option maxHeartbeats 1600000 in
set_option maxRecDepth 100000 in
theorem has_spec (t : TV) (T : Tbl) (l : List Int) (A : Option Addr) (n c : Nat) (i s : Int) (w : World) (ht : TblS w t T) (hs : Srt T) (h : IntS w ⟨A, n, c⟩ l) :
    Calls Tryd.prog 51 #[t.v, .slice A n c, .int .i64 i, .int .i64 s] w fun e w' => e = .returned (.bool (hasB T l i s)) ∧ Ext w w' := by
  obtain ⟨hn, _, _⟩ := h.len
  subst hn
  have HT := Lib.hid ht
  have HI := Lib.hid h
  obtain ⟨wb, hwb⟩ : ∃ wb, wb = (w.alloc (.cells #[.slice t.s0.a t.s0.n t.s0.c, .slice t.s1.a t.s1.n t.s1.c, .slice t.s2.a t.s2.n t.s2.c, .slice t.s3.a t.s3.n t.s3.c, .slice t.s4.a t.s4.n t.s4.c, .slice t.s5.a t.s5.n t.s5.c, .slice t.s6.a t.s6.n t.s6.c, .slice t.s7.a t.s7.n t.s7.c, .slice t.s8.a t.s8.n t.s8.c, .slice t.s9.a t.s9.n t.s9.c, .slice t.s10.a t.s10.n t.s10.c, .slice t.s11.a t.s11.n t.s11.c] 26)) := ⟨_, rfl⟩
  have hba : Ext w wb := by rw [hwb]; exact (Ext.refl _).alloc_ _
  have rT : ∀ yy : ExtW wb, ∀ k : Nat, yy.w.cell? ⟨w.heap.size, k, none⟩ = t.v.cells[k]? := fun yy => box_at' hwb yy.h
  by_cases hin : 0 ≤ i ∧ i < (l.length : Int)
  · obtain ⟨k, rfl⟩ : ∃ k : Nat, i = k := ⟨i.toNat, by omega⟩
    have hlt : k < l.length := by omega
    have HD : Hid (l.getD k 0 = l[k]) := getD_lt l k 0 hlt
    obtain ⟨b, o, ha, h1⟩ := (HI.out.ext hba).at_ hlt
    subst ha
    generalize l[k] = x at *
    have HF : Hid (hasB T l k s = (scrT T x == s)) := Lib.hid (by unfold hasB; rw [Int.toNat_natCast, HD.out]; simp [hlt])
    have rX : ∀ yy : ExtW wb, yy.w.cell? ⟨b, o + k, none⟩ = some (.int .i64 x) := ext_cell h1
    obtain ⟨hk0, hk1⟩ := hin
    clear HD h1
    generalize hv : (scrT T x == s) = v at HF
    go_enter Tryd.func51, Tryd.ntmps51
    go_wp2_with fail
    rw [← hwb]
    refine region_ext (by kernel_rfl) (by kernel_rfl) ?_
    repeat (go_big_quiet_step ((go_at_call 60; with_reducible exact quiet_ext (script_spec t T x _ (HT.out.ext_ (hba.trans' (ExtW.h _))) hs))))
    refine wpQuiet_nil ?_
    rintro _ ⟨xw, rfl⟩
    have hbx := hba.trans' xw.h
    clear rT rX hwb hba
    cases v
    all_goals
      go_wp2_with fail
      go_ret
      exact ⟨ret_bool HF.out.symm, hbx⟩
  · have HF : Hid (hasB T l i s = false) := Lib.hid (by
      unfold hasB
      by_cases h0 : 0 ≤ i
      · rw [decide_eq_false (p := i < (l.length : Int)) (by omega)]; simp
      · rw [decide_eq_false h0]; simp)
    obtain ⟨b1, h1⟩ : ∃ b, decide (0 ≤ i) = b := ⟨_, rfl⟩
    obtain ⟨b2, h2⟩ : ∃ b, decide (i < (l.length : Int)) = b := ⟨_, rfl⟩
    have hbb : (b1 && b2) = false := by rw [← h1, ← h2]; simp; omega
    clear hin
    cases b1 <;> cases b2
    case true.true => cases hbb
    all_goals
      go_enter Tryd.func51, Tryd.ntmps51
      go_wp2_with fail
      rw [← hwb]
      refine region_ext (by kernel_rfl) (by kernel_rfl) ?_
      repeat (go_big_quiet_step (fail))
      refine wpQuiet_nil ?_
      rintro _ ⟨xw, rfl⟩
      have hbx := hba.trans' xw.h
      go_wp2_with fail
      go_ret
      exact ⟨ret_bool HF.out.symm, hbx⟩
end Go.Proofs.YtgfdecfcbnnemaaDoor
