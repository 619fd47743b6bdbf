/- Walks: the reference's value, Class, Joining, Ignorable; Needs. -/
import Derived.Test.YtmgckljgkdahfaaGreatDoorGa
import Derived.Test.YtmgckljgkdahfaaGreatDoorGg
namespace Go.Proofs.YtmgckljgkdahfaaGreatDoor
open Go.RowKit

set_option maxHeartbeats 800000 in
set_option maxRecDepth 100000 in
theorem rvalue_spec (A : Option Addr) (n cc : Nat) (l : List Sp) (c : Int) (w : World) (h : SpanS w ⟨A, n, cc⟩ l) :
    Calls Tryz.prog 93 #[.slice A n cc, .int .i64 c] w fun e w' => e = .returned (.int .i64 (spFind l c)) ∧ Ext w w' := by
  obtain ⟨hn, hnc, hcm⟩ := h.len
  subst hn
  go_enter Tryz.func93, Tryz.ntmps93
  go_wp2_with fail
  go_loopw [9] (fun i wr => ∃ (k : Nat), k ≤ l.length ∧ i = .int .i64 k ∧ Hid (spFind l c = spFind (l.drop k) c) ∧ Ext w wr) (fun i _ => l.length - (intOf i).toNat)
  case atStart => exact ⟨0, Nat.zero_le _, rfl, rfl, Ext.refl _⟩
  case round =>
    obtain ⟨k, hk, rfl, HR, hb⟩ := hrel
    by_cases hlt : k < l.length
    · obtain ⟨b, o, ha, h0, h1, h2⟩ := (SpanS.ext h hb).at_ hlt
      subst ha
      have HD : Hid (l.drop k = l[k] :: l.drop (k + 1)) := drop_at l k hlt
      generalize l[k] = x at *
      obtain ⟨xl, xh, xv⟩ := x
      simp only at h0 h1 h2
      have HS := hid_trans HR (show _ = if xl ≤ c ∧ c ≤ xh then xv else spFind (l.drop (k + 1)) c from by rw [HD.out]; rfl)
      clear HR HD
      obtain ⟨b1, e1⟩ : ∃ b, decide (xl ≤ c) = b := ⟨_, rfl⟩
      obtain ⟨b2, e2⟩ : ∃ b, decide (c ≤ xh) = b := ⟨_, rfl⟩
      have HF : Hid (spFind l c = if (b1 && b2) = true then xv else spFind (l.drop (k + 1)) c) := Lib.hid (by rw [HS.out, ← e1, ← e2]; simp only [Bool.and_eq_true, decide_eq_true_eq])
      clear HS
      cases b1 <;> cases b2
      case true.true =>
        go_wp2_with fail
        go_ret
        exact ⟨ret_int HF.out.symm, hb.alloc_ _⟩
      all_goals
        go_wp2_with fail
        go_roundw
        case rel => exact ⟨k + 1, by omega, by go_num, HF, hb.alloc_ _⟩
        case measure => simp [intOf]; omega
    · have HF := hid_trans HR (show _ = 0 from by rw [drop_all l k (by omega)]; rfl)
      clear HR
      go_wp2_with fail
      go_ret
      exact ⟨ret_int HF.out.symm, hb⟩

theorem rclass_spec (t : TV) (T : Tbl) (c : Int) (w : World) (ht : TblS w t T) :
    Calls Tryz.prog 80 #[t.v, .int .i64 c] w fun e w' => e = .returned (.int .i64 (clsT T c)) ∧ Ext w w' := by
  have hx := ht.cls.ext ((Ext.refl w).alloc_ (.cells t.v.cells 26))
  go_enter Tryz.func80, Tryz.ntmps80
  go_wp2_with (go_at_call 93; refine (rvalue_spec _ _ _ T.cls _ _ hx).mono ?_; rintro e w1 ⟨rfl, hb⟩)
  go_ret
  exact ⟨rfl, ((Ext.refl w).alloc_ _).trans' hb⟩

theorem rjoining_spec (t : TV) (T : Tbl) (c : Int) (w : World) (ht : TblS w t T) :
    Calls Tryz.prog 79 #[t.v, .int .i64 c] w fun e w' => e = .returned (.int .i64 (joiT T c)) ∧ Ext w w' := by
  have hx := ht.joi.ext ((Ext.refl w).alloc_ (.cells t.v.cells 26))
  go_enter Tryz.func79, Tryz.ntmps79
  go_wp2_with (go_at_call 93; refine (rvalue_spec _ _ _ T.joi _ _ hx).mono ?_; rintro e w1 ⟨rfl, hb⟩)
  go_ret
  exact ⟨rfl, ((Ext.refl w).alloc_ _).trans' hb⟩

theorem rignorable_spec (t : TV) (T : Tbl) (c : Int) (w : World) (ht : TblS w t T) :
    Calls Tryz.prog 67 #[t.v, .int .i64 c] w fun e w' => e = .returned (.bool (ignT T c)) ∧ Ext w w' := by
  have hx := ht.ign.ext ((Ext.refl w).alloc_ (.cells t.v.cells 26))
  go_enter Tryz.func67, Tryz.ntmps67
  go_wp2_with (go_at_call 93; refine (rvalue_spec _ _ _ T.ign _ _ hx).mono ?_; rintro e w1 ⟨rfl, hb⟩)
  go_ret
  exact ⟨rfl, ((Ext.refl w).alloc_ _).trans' hb⟩

theorem rin_spec (c lo hi : Int) (w : World) : Calls Tryz.prog 74 #[.int .i64 c, .int .i64 lo, .int .i64 hi] w fun e w' => e = .returned (.bool (decide (lo ≤ c) && decide (c ≤ hi))) ∧ w = w' := by
  obtain ⟨b1, h1⟩ : ∃ b, decide (lo ≤ c) = b := ⟨_, rfl⟩
  obtain ⟨b2, h2⟩ : ∃ b, decide (c ≤ hi) = b := ⟨_, rfl⟩
  have HF : Hid ((decide (lo ≤ c) && decide (c ≤ hi)) = (b1 && b2)) := Lib.hid (by rw [h1, h2])
  cases b1 <;> cases b2
  all_goals
    go_enter Tryz.func74, Tryz.ntmps74
    go_wp2_with fail
    go_ret
    exact ⟨ret_bool HF.out.symm, rfl⟩

set_option maxHeartbeats 1600000 in
set_option maxRecDepth 100000 in
theorem rneeds_spec (c : Int) (w : World) : Calls Tryz.prog 41 #[.int .i64 c] w fun e w' => e = .returned (.bool (ctxIs c)) ∧ w = w' := by
  by_cases hx : c = 183 ∨ c = 885 ∨ c = 1523 ∨ c = 1524 ∨ c = 12539
  · have HF : Hid (ctxIs c = true) := Lib.hid (by rcases hx with rfl | rfl | rfl | rfl | rfl <;> rfl)
    rcases hx with rfl | rfl | rfl | rfl | rfl
    all_goals
      go_enter Tryz.func41, Tryz.ntmps41
      go_wp2_with fail
      go_ret
      exact ⟨ret_bool HF.out.symm, rfl⟩
  · simp only [not_or] at hx
    obtain ⟨n1, n2, n3, n4, n5⟩ := hx
    have e1 : (c == 183) = false := by rw [beq_eq_false_iff_ne]; exact n1
    have e2 : (c == 885) = false := by rw [beq_eq_false_iff_ne]; exact n2
    have e3 : (c == 1523) = false := by rw [beq_eq_false_iff_ne]; exact n3
    have e4 : (c == 1524) = false := by rw [beq_eq_false_iff_ne]; exact n4
    have e5 : (c == 12539) = false := by rw [beq_eq_false_iff_ne]; exact n5
    have HF : Hid (ctxIs c = (arabB c || extdB c)) := Lib.hid (by simp only [ctxIs, e1, e2, e3, e4, e5, Bool.false_or])
    clear n1 n2 n3 n4 n5
    cases h1 : arabB c <;> cases h2 : extdB c
    all_goals
      have H1 : Hid ((decide (1632 ≤ c) && decide (c ≤ 1641)) = _) := Lib.hid h1
      have H2 : Hid ((decide (1776 ≤ c) && decide (c ≤ 1785)) = _) := Lib.hid h2
      have HF2 := Lib.hid (HF.out.trans (by rw [h1, h2]))
      clear h1 h2 HF
      go_enter Tryz.func41, Tryz.ntmps41
      go_wp2_with (go_at_call 74; refine (rin_spec c _ _ _).mono ?_; rintro e w1 ⟨rfl, rfl⟩; first | rw [H1.out] | rw [H2.out])
      go_ret
      exact ⟨ret_bool HF2.out.symm, rfl⟩
end Go.Proofs.YtmgckljgkdahfaaGreatDoor
