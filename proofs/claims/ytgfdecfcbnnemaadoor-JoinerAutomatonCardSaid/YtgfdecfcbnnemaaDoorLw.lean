/- Walk: namedesklaw14.automaton. -/
import Derived.Test.YtgfdecfcbnnemaaDoorPj
import Derived.Test.YtgfdecfcbnnemaaDoorR
import Derived.Deep.LoopGhost
namespace Go.Proofs.YtgfdecfcbnnemaaDoor
open Go.RowKit

def ALoop (wb : World) (T : Tbl) (l : List Int) (i gh : Nat) (s7 s13 : Value) (wx : World) : Prop :=
  ∃ (k : Nat) (s : Int), k + gh = l.length ∧ s13 = .int .i64 k ∧ s7 = .int .i64 s ∧ Ext wb wx ∧ Hid (autoB T l i = autoGo T i k s (l.drop k))

set_option maxHeartbeats 3200000 in
set_option maxRecDepth 100000 in
theorem automaton_spec (t : TV) (T : Tbl) (l : List Int) (A : Option Addr) (n c : Nat) (i : Nat) (w : World) (ht : TblS w t T) (h : IntS w ⟨A, n, c⟩ l) (hi : i < l.length) :
    Calls Tryd.prog 15 #[t.v, .slice A n c, .int .i64 i] w fun e w' => e = .returned (.bool (autoB T l i)) ∧ Ext w w' := by
  obtain ⟨hn, _, _⟩ := h.len
  subst hn
  have HT := Lib.hid ht
  have HI := Lib.hid h
  have hba : Ext w (w.alloc (.cells #[.slice t.s0.a t.s0.n t.s0.c, .slice t.s1.a t.s1.n t.s1.c, .slice t.s2.a t.s2.n t.s2.c, .slice t.s3.a t.s3.n t.s3.c, .slice t.s4.a t.s4.n t.s4.c, .slice t.s5.a t.s5.n t.s5.c, .slice t.s6.a t.s6.n t.s6.c, .slice t.s7.a t.s7.n t.s7.c, .slice t.s8.a t.s8.n t.s8.c, .slice t.s9.a t.s9.n t.s9.c, .slice t.s10.a t.s10.n t.s10.c, .slice t.s11.a t.s11.n t.s11.c] 26)) := (Ext.refl _).alloc_ _
  have hi0 : (0 : Int) ≤ (i : Int) := Int.natCast_nonneg _
  go_enter Tryd.func15, Tryd.ntmps15
  go_wp2_with fail
  go_loopg [7, 13] l.length (fun gh s7 s13 wx => ALoop (w.alloc (.cells #[.slice t.s0.a t.s0.n t.s0.c, .slice t.s1.a t.s1.n t.s1.c, .slice t.s2.a t.s2.n t.s2.c, .slice t.s3.a t.s3.n t.s3.c, .slice t.s4.a t.s4.n t.s4.c, .slice t.s5.a t.s5.n t.s5.c, .slice t.s6.a t.s6.n t.s6.c, .slice t.s7.a t.s7.n t.s7.c, .slice t.s8.a t.s8.n t.s8.c, .slice t.s9.a t.s9.n t.s9.c, .slice t.s10.a t.s10.n t.s10.c, .slice t.s11.a t.s11.n t.s11.c] 26)) T l i gh s7 s13 wx)
  case atStart => exact ⟨0, 0, by omega, rfl, rfl, Ext.refl _, Lib.hid rfl⟩
  case round =>
    obtain ⟨k, s, hkg, rfl, rfl, hbr, HR⟩ := hrel
    have hb0 := hba.trans' hbr
    have HBR := Lib.hid hbr
    have HB0 := Lib.hid hb0
    have rT : ∀ k : Nat, wr.cell? ⟨w.heap.size, k, none⟩ = t.v.cells[k]? := box_at hbr
    have hk0 : (0 : Int) ≤ (k : Int) := Int.natCast_nonneg _
    by_cases hlt : k < l.length
    · obtain ⟨gk', rfl⟩ : ∃ g', gk = g' + 1 := ⟨gk - 1, by omega⟩
      have HD : Hid (l.drop k = l[k] :: l.drop (k + 1)) := drop_at l k hlt
      obtain ⟨b, o, ha, hc⟩ := (HI.out.ext hb0).at_ hlt
      subst ha
      generalize l[k] = x at *
      have hk1 : (k : Int) < (l.length : Int) := by omega
      obtain ⟨j, hj⟩ : ∃ j, joiT T x = j := ⟨_, rfl⟩
      have HJ := Lib.hid hj
      have HS : Hid (autoB T l i = if k < i then autoGo T i (k + 1) (autoSt T s x) (l.drop (k + 1)) else if k = i then (if s = 1 then autoGo T i (k + 1) 2 (l.drop (k + 1)) else false)
        else if j = 5 then autoGo T i (k + 1) s (l.drop (k + 1)) else s == 2 && (j == 2 || j == 3)) := Lib.hid (by rw [HR.out, HD.out, autoGo, HJ.out])
      have HST : Hid (autoSt T s x = if j = 5 then s else if (j == 1 || j == 3) = true then 1 else 0) := Lib.hid (by rw [autoSt, HJ.out])
      clear HR HD hj hbr hb0
      rcases Nat.lt_trichotomy k i with hki | hki | hki
      · have d1 : decide (k < i) = true := by rw [decide_eq_true_eq]; omega
        have d2 : decide (i < k) = false := by rw [decide_eq_false_iff_not]; omega
        have HG : Hid (autoB T l i = autoGo T i (k + 1) (if j = 5 then s else if (j == 1 || j == 3) = true then 1 else 0) (l.drop (k + 1))) := Lib.hid (by rw [HS.out, if_pos hki, HST.out])
        clear HS HST hki
        by_cases h5 : j = 5
        · subst h5
          have HG2 : Hid (autoB T l i = autoGo T i (k + 1) s (l.drop (k + 1))) := HG
          clear HG
          go_wp2_with (go_at_call 38; refine (rjoining_spec t T x _ (HT.out.ext_ HB0.out)).mono ?_; rintro e w2 ⟨rfl, hb2⟩; rw [HJ.out])
          go_roundg gk'
          case measure => omega
          case rel => exact ⟨k + 1, s, by omega, by go_num, rfl, HBR.out.trans' hb2, HG2⟩
        · have e5 : (j == 5) = false := by rw [beq_eq_false_iff_ne]; exact h5
          obtain ⟨b1, e1⟩ : ∃ b, (j == 1) = b := ⟨_, rfl⟩
          obtain ⟨b3, e3⟩ : ∃ b, (j == 3) = b := ⟨_, rfl⟩
          have HG2 : Hid (autoB T l i = autoGo T i (k + 1) (if (b1 || b3) = true then 1 else 0) (l.drop (k + 1))) := Lib.hid (by rw [HG.out, if_neg h5, e1, e3])
          clear HG h5
          cases b1 <;> cases b3
          all_goals
            go_wp2_with (go_at_call 38; refine (rjoining_spec t T x _ (HT.out.ext_ HB0.out)).mono ?_; rintro e w2 ⟨rfl, hb2⟩; rw [HJ.out])
            go_roundg gk'
            case measure => omega
            case rel => exact ⟨k + 1, _, by omega, by go_num, rfl, HBR.out.trans' hb2, HG2⟩
      · subst hki
        have HG : Hid (autoB T l k = if s = 1 then autoGo T k (k + 1) 2 (l.drop (k + 1)) else false) := Lib.hid (by rw [HS.out, if_neg (by omega), if_pos rfl])
        have d1 : decide (k < k) = false := by rw [decide_eq_false_iff_not]; omega
        clear HS HST
        by_cases h1 : s = 1
        · subst h1
          have HG2 : Hid (autoB T l k = autoGo T k (k + 1) 2 (l.drop (k + 1))) := HG
          clear HG
          go_wp2_with (go_at_call 38; refine (rjoining_spec t T x _ (HT.out.ext_ HB0.out)).mono ?_; rintro e w2 ⟨rfl, hb2⟩; rw [HJ.out])
          go_roundg gk'
          case measure => omega
          case rel => exact ⟨k + 1, 2, by omega, by go_num, rfl, HBR.out.trans' hb2, HG2⟩
        · have e1 : (s == 1) = false := by rw [beq_eq_false_iff_ne]; exact h1
          have HG2 : Hid (autoB T l k = false) := Lib.hid (by rw [HG.out, if_neg h1])
          clear HG h1
          go_wp2_with (go_at_call 38; refine (rjoining_spec t T x _ (HT.out.ext_ HB0.out)).mono ?_; rintro e w2 ⟨rfl, hb2⟩; rw [HJ.out])
          go_ret
          exact ⟨ret_bool HG2.out.symm, HB0.out.trans' hb2⟩
      · have d1 : decide (k < i) = false := by rw [decide_eq_false_iff_not]; omega
        have d2 : decide (i < k) = true := by rw [decide_eq_true_eq]; omega
        have d3 : ((k : Int) == (i : Int)) = false := by rw [beq_eq_false_iff_ne]; omega
        have d4 : (k == i) = false := by rw [beq_eq_false_iff_ne]; omega
        have HG : Hid (autoB T l i = if j = 5 then autoGo T i (k + 1) s (l.drop (k + 1)) else s == 2 && (j == 2 || j == 3)) := Lib.hid (by rw [HS.out, if_neg (by omega), if_neg (by omega)])
        clear HS HST hki
        by_cases h5 : j = 5
        · subst h5
          have HG2 : Hid (autoB T l i = autoGo T i (k + 1) s (l.drop (k + 1))) := HG
          clear HG
          go_wp2_with (go_at_call 38; refine (rjoining_spec t T x _ (HT.out.ext_ HB0.out)).mono ?_; rintro e w2 ⟨rfl, hb2⟩; rw [HJ.out])
          go_roundg gk'
          case measure => omega
          case rel => exact ⟨k + 1, s, by omega, by go_num, rfl, HBR.out.trans' hb2, HG2⟩
        · have e5 : (j == 5) = false := by rw [beq_eq_false_iff_ne]; exact h5
          obtain ⟨b0, e0⟩ : ∃ b, (s == 2) = b := ⟨_, rfl⟩
          obtain ⟨b1, e1⟩ : ∃ b, (j == 2) = b := ⟨_, rfl⟩
          obtain ⟨b3, e3⟩ : ∃ b, (j == 3) = b := ⟨_, rfl⟩
          have HG2 : Hid (autoB T l i = (b0 && (b1 || b3))) := Lib.hid (by rw [HG.out, if_neg h5, e0, e1, e3])
          clear HG h5
          cases b0 <;> cases b1 <;> cases b3
          all_goals
            go_wp2_with (go_at_call 38; refine (rjoining_spec t T x _ (HT.out.ext_ HB0.out)).mono ?_; rintro e w2 ⟨rfl, hb2⟩; rw [HJ.out])
            go_ret
            exact ⟨ret_bool HG2.out.symm, HB0.out.trans' hb2⟩
    · have HF : Hid (autoB T l i = false) := Lib.hid (by rw [HR.out, drop_all l k (by omega)]; rfl)
      clear HR
      go_wp2_with fail
      go_ret
      exact ⟨ret_bool HF.out.symm, HB0.out⟩
end Go.Proofs.YtgfdecfcbnnemaaDoor
