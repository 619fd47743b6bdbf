/- Walks: context. Walks: context.permitted, Permitted, Check. Walks: context.Check. -/
import Derived.Test.YtbdabjhankgcmaaDoorGf
namespace Go.Proofs.YtbdabjhankgcmaaDoor
open Go.RowKit
def arabB (c : Int) : Bool := decide (1632 ≤ c) && decide (c ≤ 1641)
def extdB (c : Int) : Bool := decide (1776 ≤ c) && decide (c ≤ 1785)
def ctxIs (c : Int) : Bool := c == 183 || c == 885 || c == 1523 || c == 1524 || c == 12539 || arabB c || extdB c
def hasB (T : Tbl) (l : List Int) (i s : Int) : Bool := decide (0 ≤ i) && decide (i < (l.length : Int)) && scrT T (l.getD i.toNat 0) == s
def japB (T : Tbl) (c : Int) : Bool := scrT T c == 7 || scrT T c == 8 || scrT T c == 6
def dotB (l : List Int) (i : Nat) : Bool := decide (0 < i) && decide (i + 1 < l.length) && l.getD (i - 1) 0 == 108 && l.getD (i + 1) 0 == 108
def cper (T : Tbl) (l : List Int) (i : Nat) : Bool :=
 if (l.getD i 0 == 183) = true then dotB l i
 else if (l.getD i 0 == 885) = true then hasB T l ((i : Int) + 1) 4
 else if (l.getD i 0 == 1523 || l.getD i 0 == 1524) = true then hasB T l ((i : Int) - 1) 11
 else if (l.getD i 0 == 12539) = true then l.any (japB T)
 else if arabB (l.getD i 0) = true then !l.any extdB
 else if extdB (l.getD i 0) = true then !l.any arabB
 else true
def cpermB (T : Tbl) (l : List Int) (i : Int) : Bool := existsB T l i && cper T l i.toNat
def cchk (T : Tbl) (l : List Int) : Nat → Nat → Int × Int
 | 0, _ => (0, 0)
 | n + 1, i => if cper T l i = true then cchk T l n (i + 1) else (i, 18)
def ccheck (T : Tbl) (l : List Int) : Int × Int := if ordErr T l = 0 then cchk T l l.length 0 else (0, ordErr T l)
theorem arabic_spec (c : Int) (w : World) : Calls Tryd.prog 53 #[.int .i64 c] w fun e w' => e = .returned (.bool (arabB c)) ∧ w = w' := by
 obtain ⟨b1, h1⟩ : ∃ b, decide (1632 ≤ c) = b := ⟨_, rfl⟩
 obtain ⟨b2, h2⟩ : ∃ b, decide (c ≤ 1641) = b := ⟨_, rfl⟩
 have HF : Hid (arabB c = (b1 && b2)) := Lib.hid (by rw [arabB, h1, h2])
 cases b1 <;> cases b2
 all_goals
  go_enter Tryd.func53, Tryd.ntmps53
  go_wp2_with fail
  go_ret
  exact ⟨ret_bool HF.out.symm, rfl⟩
theorem extended_spec (c : Int) (w : World) : Calls Tryd.prog 54 #[.int .i64 c] w fun e w' => e = .returned (.bool (extdB c)) ∧ w = w' := by
 obtain ⟨b1, h1⟩ : ∃ b, decide (1776 ≤ c) = b := ⟨_, rfl⟩
 obtain ⟨b2, h2⟩ : ∃ b, decide (c ≤ 1785) = b := ⟨_, rfl⟩
 have HF : Hid (extdB c = (b1 && b2)) := Lib.hid (by rw [extdB, h1, h2])
 cases b1 <;> cases b2
 all_goals
  go_enter Tryd.func54, Tryd.ntmps54
  go_wp2_with fail
  go_ret
  exact ⟨ret_bool HF.out.symm, rfl⟩
set_option maxHeartbeats 1600000 in
set_option maxRecDepth 100000 in
theorem japanese_spec (t : TV) (T : Tbl) (c : Int) (w : World) (ht : TblS w t T) (hs : Srt T) :
  Calls Tryd.prog 52 #[t.v, .int .i64 c] w fun e w' => e = .returned (.bool (japB T c)) ∧ Ext w w' := by
 have HT := Lib.hid ht
 have hba := tw_ext w t
 have HF : Hid (∀ v, scrT T c = v → japB T c = (v == 7 || v == 8 || v == 6)) := Lib.hid (by rintro v rfl; rfl)
 obtain ⟨v, hv⟩ : ∃ v, scrT T c = v := ⟨_, rfl⟩
 have HV := Lib.hid hv
 have HG := Lib.hid (HF.out v hv)
 clear HF hv
 by_cases hx : v = 7 ∨ v = 8 ∨ v = 6
 ·rcases hx with rfl | rfl | rfl
  all_goals
   have HG2 : Hid (japB T c = true) := Lib.hid HG.out
   go_enter Tryd.func52, Tryd.ntmps52
   go_wp2_with (go_at_call 75; refine (script_spec t T c _ (HT.out.ext_ hba) hs).mono ?_; rintro e w1 ⟨rfl, hb1⟩; rw [HV.out])
   go_ret
   exact ⟨ret_bool HG2.out.symm, hba.trans' hb1⟩
 ·simp only [not_or] at hx
  obtain ⟨n1, n2, n3⟩ := hx
  have e1 : (v == 7) = false := by rw [beq_eq_false_iff_ne]; exact n1
  have e2 : (v == 8) = false := by rw [beq_eq_false_iff_ne]; exact n2
  have e3 : (v == 6) = false := by rw [beq_eq_false_iff_ne]; exact n3
  have HG2 : Hid (japB T c = false) := Lib.hid (by rw [HG.out, e1, e2, e3]; rfl)
  clear n1 n2 n3 HG
  go_enter Tryd.func52, Tryd.ntmps52
  go_wp2_with (go_at_call 75; refine (script_spec t T c _ (HT.out.ext_ hba) hs).mono ?_; rintro e w1 ⟨rfl, hb1⟩; rw [HV.out])
  go_ret
  exact ⟨ret_bool HG2.out.symm, hba.trans' hb1⟩
set_option maxHeartbeats 1600000 in
set_option maxRecDepth 100000 in
theorem has_spec (t : TV) (T : Tbl) (l : List Int) (A : Option Addr) (n c : Nat) (i s : Int) (w : World) (ht : TblS w t T) (hs : Srt T) (h : IntS w ⟨A, n, c⟩ l) :
  Calls Tryd.prog 50 #[t.v, .slice A n c, .int .i64 i, .int .i64 s] w fun e w' => e = .returned (.bool (hasB T l i s)) ∧ Ext w w' := by
 obtain ⟨hn, _, _⟩ := h.len
 subst hn
 have HT := Lib.hid ht
 have HI := Lib.hid h
 obtain ⟨wb, hwb⟩ : ∃ wb, wb = (w.alloc (.cells #[.slice t.s0.a t.s0.n t.s0.c, .slice t.s1.a t.s1.n t.s1.c, .slice t.s2.a t.s2.n t.s2.c, .slice t.s3.a t.s3.n t.s3.c, .slice t.s4.a t.s4.n t.s4.c, .slice t.s5.a t.s5.n t.s5.c, .slice t.s6.a t.s6.n t.s6.c, .slice t.s7.a t.s7.n t.s7.c, .slice t.s8.a t.s8.n t.s8.c, .slice t.s9.a t.s9.n t.s9.c, .slice t.s10.a t.s10.n t.s10.c, .slice t.s11.a t.s11.n t.s11.c] 30)) := ⟨_, rfl⟩
 have hba : Ext w wb := by rw [hwb]; exact (Ext.refl _).alloc_ _
 have rT : ∀ yy : ExtW wb, ∀ k : Nat, yy.w.cell? ⟨w.heap.size, k, none⟩ = t.v.cells[k]? := fun yy => box_at' hwb yy.h
 by_cases hin : 0 ≤ i ∧ i < (l.length : Int)
 ·obtain ⟨k, rfl⟩ : ∃ k : Nat, i = k := ⟨i.toNat, by omega⟩
  have hlt : k < l.length := by omega
  have HD : Hid (l.getD k 0 = l[k]) := getD_lt l k 0 hlt
  obtain ⟨b, o, ha, h1⟩ := (HI.out.ext hba).at_ hlt
  subst ha
  generalize l[k] = x at *
  have HF : Hid (hasB T l k s = (scrT T x == s)) := Lib.hid (by unfold hasB; rw [Int.toNat_natCast, HD.out]; simp [hlt])
  have rX : ∀ yy : ExtW wb, yy.w.cell? ⟨b, o + k, none⟩ = some (.int .i64 x) := ext_cell h1
  obtain ⟨hk0, hk1⟩ := hin
  clear HD h1
  generalize hv : (scrT T x == s) = v at HF
  go_enter Tryd.func50, Tryd.ntmps50
  go_wp2_with fail
  rw [← hwb]
  refine region_ext (by kernel_rfl) (by kernel_rfl) ?_
  repeat (go_big_quiet_step ((go_at_call 75; with_reducible exact quiet_ext (script_spec t T x _ (HT.out.ext_ (hba.trans' (ExtW.h _))) hs))))
  refine wpQuiet_nil ?_
  rintro _ ⟨xw, rfl⟩
  have hbx := hba.trans' xw.h
  clear rT rX hwb hba
  cases v
  all_goals
   go_wp2_with fail
   go_ret
   exact ⟨ret_bool HF.out.symm, hbx⟩
 ·have HF : Hid (hasB T l i s = false) := Lib.hid (by
   unfold hasB
   by_cases h0 : 0 ≤ i
   ·rw [decide_eq_false (p := i < (l.length : Int)) (by omega)]; simp
   ·rw [decide_eq_false h0]; simp)
  obtain ⟨b1, h1⟩ : ∃ b, decide (0 ≤ i) = b := ⟨_, rfl⟩
  obtain ⟨b2, h2⟩ : ∃ b, decide (i < (l.length : Int)) = b := ⟨_, rfl⟩
  have hbb : (b1 && b2) = false := by rw [← h1, ← h2]; simp; omega
  clear hin
  cases b1 <;> cases b2
  case true.true => cases hbb
  all_goals
   go_enter Tryd.func50, Tryd.ntmps50
   go_wp2_with fail
   rw [← hwb]
   refine region_ext (by kernel_rfl) (by kernel_rfl) ?_
   repeat (go_big_quiet_step (fail))
   refine wpQuiet_nil ?_
   rintro _ ⟨xw, rfl⟩
   have hbx := hba.trans' xw.h
   go_wp2_with fail
   go_ret
   exact ⟨ret_bool HF.out.symm, hbx⟩
end Go.Proofs.YtbdabjhankgcmaaDoor
namespace Go.Proofs.YtbdabjhankgcmaaDoor
open Go.RowKit
set_option maxHeartbeats 1600000 in
set_option maxRecDepth 100000 in
theorem ctxperm1_spec (t : TV) (T : Tbl) (c : Int) (bk : Nat) (w : World) (ht : TblS w t T) (hs : Srt T) (hb : ∀ k : Nat, w.cell? ⟨bk, k, none⟩ = t.v.cells[k]?) :
  Calls Tryd.prog 51 (#[.int .i64 c] ++ #[.pointer (some ⟨bk, 0, none⟩)]) w fun e w' => e = .returned (.bool (japB T c)) ∧ Ext w w' := by
 have rT : ∀ k : Nat, w.cell? ⟨bk, k, none⟩ = (#[.slice t.s0.a t.s0.n t.s0.c, .slice t.s1.a t.s1.n t.s1.c, .slice t.s2.a t.s2.n t.s2.c, .slice t.s3.a t.s3.n t.s3.c, .slice t.s4.a t.s4.n t.s4.c, .slice t.s5.a t.s5.n t.s5.c, .slice t.s6.a t.s6.n t.s6.c, .slice t.s7.a t.s7.n t.s7.c, .slice t.s8.a t.s8.n t.s8.c, .slice t.s9.a t.s9.n t.s9.c, .slice t.s10.a t.s10.n t.s10.c, .slice t.s11.a t.s11.n t.s11.c] : Array Value)[k]? := hb
 go_enter Tryd.func51, Tryd.ntmps51
 go_wp2_with (go_at_call 52; refine (japanese_spec t T c _ ht hs).mono ?_; rintro e w1 ⟨rfl, hb1⟩)
 go_ret
 exact ⟨rfl, hb1⟩
set_option maxHeartbeats 3200000 in
set_option maxRecDepth 100000 in
theorem cper_spec (t : TV) (T : Tbl) (l : List Int) (A : Option Addr) (n c : Nat) (i : Nat) (w : World) (ht : TblS w t T) (hs : Srt T) (h : IntS w ⟨A, n, c⟩ l) (hi : i < l.length) :
  Calls Tryd.prog 36 #[t.v, .slice A n c, .int .i64 i] w fun e w' => e = .returned (.bool (cper T l i)) ∧ Ext w w' := by
 obtain ⟨hn, _, _⟩ := h.len
 subst hn
 have HT := Lib.hid ht
 have HI := Lib.hid h
 have hba := tw_ext w t
 have HD : Hid (l.getD i 0 = l[i]) := getD_lt l i 0 hi
 have HATT : Hid (∀ j, j < l.length → ∃ y, l.getD j 0 = y ∧ ∃ b o, A = some ⟨b, o, none⟩ ∧ (w.alloc (.cells #[.slice t.s0.a t.s0.n t.s0.c, .slice t.s1.a t.s1.n t.s1.c, .slice t.s2.a t.s2.n t.s2.c, .slice t.s3.a t.s3.n t.s3.c, .slice t.s4.a t.s4.n t.s4.c, .slice t.s5.a t.s5.n t.s5.c, .slice t.s6.a t.s6.n t.s6.c, .slice t.s7.a t.s7.n t.s7.c, .slice t.s8.a t.s8.n t.s8.c, .slice t.s9.a t.s9.n t.s9.c, .slice t.s10.a t.s10.n t.s10.c, .slice t.s11.a t.s11.n t.s11.c] 30)).cell? ⟨b, o + j, none⟩ = some (.int .i64 y)) := Lib.hid (fun j hj => by
   obtain ⟨b', o', hbo, h2⟩ := (HI.out.ext hba).at_ (i := j) hj
   exact ⟨_, getD_lt l j 0 hj, b', o', hbo, h2⟩)
 obtain ⟨b, o, ha, h1⟩ := (HI.out.ext hba).at_ hi
 subst ha
 have HAT : Hid (∀ j, j < l.length → ∃ y, l.getD j 0 = y ∧ (w.alloc (.cells #[.slice t.s0.a t.s0.n t.s0.c, .slice t.s1.a t.s1.n t.s1.c, .slice t.s2.a t.s2.n t.s2.c, .slice t.s3.a t.s3.n t.s3.c, .slice t.s4.a t.s4.n t.s4.c, .slice t.s5.a t.s5.n t.s5.c, .slice t.s6.a t.s6.n t.s6.c, .slice t.s7.a t.s7.n t.s7.c, .slice t.s8.a t.s8.n t.s8.c, .slice t.s9.a t.s9.n t.s9.c, .slice t.s10.a t.s10.n t.s10.c, .slice t.s11.a t.s11.n t.s11.c] 30)).cell? ⟨b, o + j, none⟩ = some (.int .i64 y)) := Lib.hid (fun j hj => by
   obtain ⟨y, h1, b', o', hbo, h2⟩ := HATT.out j hj
   injection hbo with hbo
   injection hbo with e1 e2
   subst e1 e2
   exact ⟨y, h1, h2⟩)
 clear HATT
 generalize l[i] = x at *
 have hk0 : (0 : Int) ≤ (i : Int) := Int.natCast_nonneg _
 have hk1 : (i : Int) < (l.length : Int) := by omega
 have HF : Hid (cper T l i = if (x == 183) = true then dotB l i else if (x == 885) = true then hasB T l ((i : Int) + 1) 4 else if (x == 1523 || x == 1524) = true then hasB T l ((i : Int) - 1) 11
   else if (x == 12539) = true then l.any (japB T) else if arabB x = true then !l.any extdB else if extdB x = true then !l.any arabB else true) := Lib.hid (by unfold cper; rw [HD.out])
 clear HD
 by_cases x1 : x = 183
 ·subst x1
  have HG : Hid (cper T l i = dotB l i) := HF
  clear HF
  by_cases hr : 0 < i ∧ i + 1 < l.length
  ·obtain ⟨y, hy, hcy⟩ := HAT.out (i - 1) (by omega)
   obtain ⟨z, hz, hcz⟩ := HAT.out (i + 1) hr.2
   obtain ⟨k, hk⟩ : ∃ k, i = k + 1 := ⟨i - 1, by omega⟩
   have hsub : (i : Int) - 1 = (k : Int) := by omega
   have hki : i - 1 = k := by omega
   rw [hki] at hcy
   have hkk0 : (0 : Int) ≤ (k : Int) := Int.natCast_nonneg _
   have hkk1 : (k : Int) < (l.length : Int) := by omega
   have hkk2 : (0 : Int) ≤ (i : Int) + 1 := by omega
   have hkk3 : (i : Int) + 1 < (l.length : Int) := by omega
   have hd2 : decide (0 < i) = true := by rw [decide_eq_true_eq]; omega
   have hd3 : decide ((i : Int) < (l.length : Int) - 1) = true := by rw [decide_eq_true_eq]; omega
   obtain ⟨b1, hb1⟩ : ∃ b, (y == 108) = b := ⟨_, rfl⟩
   obtain ⟨b2, hb2⟩ : ∃ b, (z == 108) = b := ⟨_, rfl⟩
   have HG2 : Hid (cper T l i = (b1 && b2)) := Lib.hid (by rw [HG.out]; unfold dotB; rw [hki] at hy ⊢; rw [hy, hz, hb1, hb2]; simp [hr.1, hr.2])
   clear HG hr hy hz hk hki HAT
   cases b1 <;> cases b2
   all_goals
    go_enter Tryd.func36, Tryd.ntmps36
    go_wp2_with fail
    go_ret
    exact ⟨ret_bool HG2.out.symm, hba⟩
  ·have HG2 : Hid (cper T l i = false) := Lib.hid (by
    rw [HG.out]; unfold dotB
    by_cases h0 : 0 < i
    ·rw [decide_eq_false (p := i + 1 < l.length) (by omega)]; simp
    ·rw [decide_eq_false h0]; simp)
   clear HG HAT
   by_cases h0 : 0 < i
   ·have hd2 : decide (0 < i) = true := by rw [decide_eq_true_eq]; omega
    have hd3 : decide ((i : Int) < (l.length : Int) - 1) = false := by rw [decide_eq_false_iff_not]; omega
    clear hr
    go_enter Tryd.func36, Tryd.ntmps36
    go_wp2_with fail
    go_ret
    exact ⟨ret_bool HG2.out.symm, hba⟩
   ·have hd2 : decide (0 < i) = false := by rw [decide_eq_false_iff_not]; omega
    clear hr
    go_enter Tryd.func36, Tryd.ntmps36
    go_wp2_with fail
    go_ret
    exact ⟨ret_bool HG2.out.symm, hba⟩
 by_cases x2 : x = 885
 ·subst x2
  have HG : Hid (cper T l i = hasB T l ((i : Int) + 1) 4) := HF
  clear HF HAT x1
  go_enter Tryd.func36, Tryd.ntmps36
  go_wp2_with (go_at_call 50; refine (has_spec t T l _ _ c _ _ _ (HT.out.ext_ hba) hs (HI.out.ext hba)).mono ?_; rintro e w1 ⟨rfl, hb1⟩)
  go_ret
  exact ⟨ret_bool HG.out.symm, hba.trans' hb1⟩
 by_cases x3 : x = 1523 ∨ x = 1524
 ·have HG : Hid (cper T l i = hasB T l ((i : Int) - 1) 11) := Lib.hid (by rw [HF.out]; rcases x3 with rfl | rfl <;> rfl)
  clear HF HAT x1 x2
  rcases x3 with rfl | rfl
  all_goals
   go_enter Tryd.func36, Tryd.ntmps36
   go_wp2_with (go_at_call 50; refine (has_spec t T l _ _ c _ _ _ (HT.out.ext_ hba) hs (HI.out.ext hba)).mono ?_; rintro e w1 ⟨rfl, hb1⟩)
   go_ret
   exact ⟨ret_bool HG.out.symm, hba.trans' hb1⟩
 by_cases x4 : x = 12539
 ·subst x4
  have HG : Hid (cper T l i = l.any (japB T)) := HF
  clear HF HAT x1 x2 x3
  go_enter Tryd.func36, Tryd.ntmps36
  go_wp2_with (go_at_call 39; refine (containsFunc_spec 51 #[.pointer (some ⟨w.heap.size, 0, none⟩)] (japB T) l _ _ _ _ (HI.out.ext hba) Tryd.call51 (fun x _ w' hw' => ctxperm1_spec t T x _ w' (HT.out.ext_ (hba.trans' hw')) hs (box_at hw'))).mono ?_; rintro e w1 ⟨rfl, hb1⟩)
  go_ret
  exact ⟨ret_bool HG.out.symm, hba.trans' hb1⟩
 have e1 : (x == 183) = false := by rw [beq_eq_false_iff_ne]; exact x1
 have e2 : (x == 885) = false := by rw [beq_eq_false_iff_ne]; exact x2
 have e3 : (x == 1523) = false := by rw [beq_eq_false_iff_ne]; exact fun h => x3 (.inl h)
 have e4 : (x == 1524) = false := by rw [beq_eq_false_iff_ne]; exact fun h => x3 (.inr h)
 have e5 : (x == 12539) = false := by rw [beq_eq_false_iff_ne]; exact x4
 have HG : Hid (cper T l i = if arabB x = true then !l.any extdB else if extdB x = true then !l.any arabB else true) := Lib.hid (by rw [HF.out, e1, e2, e3, e4, e5]; rfl)
 clear HF x1 x2 x3 x4 HAT
 cases ha : arabB x
 ·cases he : extdB x
  ·have HG2 : Hid (cper T l i = true) := Lib.hid (by rw [HG.out, ha, he]; rfl)
   have HA := Lib.hid ha
   have HE := Lib.hid he
   clear ha he HG
   go_enter Tryd.func36, Tryd.ntmps36
   go_wp2_with (first
    | (go_at_call 53; refine (arabic_spec _ _).mono ?_; rintro e w1 ⟨rfl, rfl⟩; rw [HA.out])
    | (go_at_call 54; refine (extended_spec _ _).mono ?_; rintro e w1 ⟨rfl, rfl⟩; rw [HE.out]))
   go_ret
   exact ⟨ret_bool HG2.out.symm, hba⟩
  ·have HG2 : Hid (cper T l i = !l.any arabB) := Lib.hid (by rw [HG.out, ha, he]; rfl)
   have HA := Lib.hid ha
   have HE := Lib.hid he
   clear ha he HG
   go_enter Tryd.func36, Tryd.ntmps36
   go_wp2_with (first
    | (go_at_call 53; refine (arabic_spec _ _).mono ?_; rintro e w1 ⟨rfl, rfl⟩; rw [HA.out])
    | (go_at_call 54; refine (extended_spec _ _).mono ?_; rintro e w1 ⟨rfl, rfl⟩; rw [HE.out])
    | (go_at_call 39; refine (containsFunc_spec 53 #[] arabB l _ _ _ _ (HI.out.ext hba) Tryd.call53 (fun x _ w' hw' => (arabic_spec x w').mono (by rintro e w1 ⟨rfl, rfl⟩; exact ⟨rfl, Ext.refl _⟩))).mono ?_; rintro e w1 ⟨rfl, hb1⟩))
   go_ret
   exact ⟨ret_bool HG2.out.symm, hba.trans' hb1⟩
 ·have HG2 : Hid (cper T l i = !l.any extdB) := Lib.hid (by rw [HG.out, ha]; rfl)
  have HA := Lib.hid ha
  clear ha HG
  go_enter Tryd.func36, Tryd.ntmps36
  go_wp2_with (first
   | (go_at_call 53; refine (arabic_spec _ _).mono ?_; rintro e w1 ⟨rfl, rfl⟩; rw [HA.out])
   | (go_at_call 39; refine (containsFunc_spec 54 #[] extdB l _ _ _ _ (HI.out.ext hba) Tryd.call54 (fun x _ w' hw' => (extended_spec x w').mono (by rintro e w1 ⟨rfl, rfl⟩; exact ⟨rfl, Ext.refl _⟩))).mono ?_; rintro e w1 ⟨rfl, hb1⟩))
  go_ret
  exact ⟨ret_bool HG2.out.symm, hba.trans' hb1⟩
end Go.Proofs.YtbdabjhankgcmaaDoor
namespace Go.Proofs.YtbdabjhankgcmaaDoor
open Go.RowKit
theorem cchk_le (T : Tbl) (l : List Int) : ∀ n i, cchk T l n i = (0, 0) ∨ ∃ k : Nat, cchk T l n i = ((k : Int), 18)
 | 0, _ => .inl rfl
 | n + 1, i => by
  simp only [cchk]
  by_cases h : cper T l i = true
  ·rw [if_pos h]; exact cchk_le T l n (i + 1)
  ·rw [if_neg h]; exact .inr ⟨(i : Nat), rfl⟩
set_option maxHeartbeats 1600000 in
set_option maxRecDepth 100000 in
theorem ccheck_spec (t : TV) (T : Tbl) (l : List Int) (A : Option Addr) (n c : Nat) (w : World) (ht : TblS w t T) (h : IntS w ⟨A, n, c⟩ l) :
  Calls Tryd.prog 25 #[t.v, .slice A n c] w fun e w' => e = .returned (.tuple #[.int .i64 (ccheck T l).1, .int .i64 (ccheck T l).2]) ∧ Ext w w' := by
 obtain ⟨hn, _, _⟩ := h.len
 subst hn
 have HT := Lib.hid ht
 have HI := Lib.hid h
 have hba := tw_ext w t
 go_enter Tryd.func25, Tryd.ntmps25
 go_wp2_with fail
 refine (order_spec t T l A _ c _ (HT.out.ext_ hba) (HI.out.ext hba)).mono ?_
 rintro e w1 ⟨v, rfl, hb1, _⟩
 have hb01 := hba.trans' hb1
 by_cases hz : ordErr T l = 0
 ·have HW := Lib.hid (wf_srt (ord_wf hz).1)
  have HB : Hid (ccheck T l = cchk T l (l.length - 0) 0) := Lib.hid (by simp [ccheck, hz])
  rw [hz]
  clear hz
  go_wp2_with fail
  go_loopw [20] (fun j wr => ∃ (k : Nat), k ≤ l.length ∧ j = .int .i64 k ∧ Hid (ccheck T l = cchk T l (l.length - k) k) ∧ Ext (w.alloc (.cells #[.slice t.s0.a t.s0.n t.s0.c, .slice t.s1.a t.s1.n t.s1.c, .slice t.s2.a t.s2.n t.s2.c, .slice t.s3.a t.s3.n t.s3.c, .slice t.s4.a t.s4.n t.s4.c, .slice t.s5.a t.s5.n t.s5.c, .slice t.s6.a t.s6.n t.s6.c, .slice t.s7.a t.s7.n t.s7.c, .slice t.s8.a t.s8.n t.s8.c, .slice t.s9.a t.s9.n t.s9.c, .slice t.s10.a t.s10.n t.s10.c, .slice t.s11.a t.s11.n t.s11.c] 30)) wr) (fun j _ => l.length - (intOf j).toNat)
  case atStart => exact ⟨0, Nat.zero_le _, rfl, HB, hb1⟩
  case round =>
   obtain ⟨k, hk, rfl, HR, hbr⟩ := hrel
   have hb0 := hba.trans' hbr
   have rT : ∀ k : Nat, wr.cell? ⟨w.heap.size, k, none⟩ = t.v.cells[k]? := box_at hbr
   by_cases hlt : k < l.length
   ·have HS := hid_trans HR (show _ = if cper T l k = true then cchk T l (l.length - (k + 1)) (k + 1) else ((k : Int), (18 : Int)) from by
     rw [show l.length - k = (l.length - (k + 1)) + 1 from by omega]; rfl)
    clear HR HB
    cases hv : cper T l k
    ·have HF := hid_trans HS (show _ = ((k : Int), (18 : Int)) from by rw [hv]; simp)
     have HV := Lib.hid hv
     clear HS hv
     go_wp2_with (go_at_call 36; refine (cper_spec t T l A _ c k _ (HT.out.ext_ hb0) HW.out (HI.out.ext hb0) hlt).mono ?_; rintro e w2 ⟨rfl, hb2⟩; rw [HV.out])
     go_ret2
     exact ⟨by rw [HF.out]; rfl, hb0.trans' hb2⟩
    ·have HF := hid_trans HS (show _ = cchk T l (l.length - (k + 1)) (k + 1) from by rw [hv]; simp)
     have HV := Lib.hid hv
     clear HS hv
     go_wp2_with (go_at_call 36; refine (cper_spec t T l A _ c k _ (HT.out.ext_ hb0) HW.out (HI.out.ext hb0) hlt).mono ?_; rintro e w2 ⟨rfl, hb2⟩; rw [HV.out])
     go_roundw
     case rel => exact ⟨k + 1, by omega, by go_num, HF, hbr.trans' hb2⟩
     case measure => simp [intOf]; omega
   ·have HF := hid_trans HR (show _ = ((0 : Int), (0 : Int)) from by rw [show l.length - k = 0 from by omega]; rfl)
    clear HR HB
    go_wp2_with fail
    go_ret2
    exact ⟨by rw [HF.out]; rfl, hb0⟩
 ·have hzb : (ordErr T l == 0) = false := by rw [beq_eq_false_iff_ne]; exact hz
  have HF : Hid (ccheck T l = (0, ordErr T l)) := Lib.hid (by simp [ccheck, hz])
  clear hz
  go_wp2_with fail
  go_ret2
  exact ⟨by rw [HF.out]; rfl, hb01⟩
end Go.Proofs.YtbdabjhankgcmaaDoor
