/- Walks: the reference's value, Class, Joining, Ignorable; Needs. -/
import Derived.Test.YtbdabjhankgcmaaGreatDoorGa
namespace Go.Proofs.YtbdabjhankgcmaaGreatDoor
open Go.RowKit
set_option maxHeartbeats 800000 in
set_option maxRecDepth 100000 in
theorem rvalue_spec (A : Option Addr) (n cc : Nat) (l : List Sp) (c : Int) (w : World) (h : SpanS w ⟨A, n, cc⟩ l) :
  Calls Tryz.prog 89 #[.slice A n cc, .int .i64 c] w fun e w' => e = .returned (.int .i64 (spFind l c)) ∧ Ext w w' := by
 obtain ⟨hn, hnc, hcm⟩ := h.len
 subst hn
 go_enter Tryz.func89, Tryz.ntmps89
 go_wp2_with fail
 go_loopw [9] (fun i wr => ∃ (k : Nat), k ≤ l.length ∧ i = .int .i64 k ∧ Hid (spFind l c = spFind (l.drop k) c) ∧ Ext w wr) (fun i _ => l.length - (intOf i).toNat)
 case atStart => exact ⟨0, Nat.zero_le _, rfl, rfl, Ext.refl _⟩
 case round =>
  obtain ⟨k, hk, rfl, HR, hb⟩ := hrel
  by_cases hlt : k < l.length
  ·obtain ⟨b, o, ha, h0, h1, h2⟩ := (SpanS.ext h hb).at_ hlt
   subst ha
   have HD : Hid (l.drop k = l[k] :: l.drop (k + 1)) := drop_at l k hlt
   generalize l[k] = x at *
   obtain ⟨xl, xh, xv⟩ := x
   simp only at h0 h1 h2
   have HS := hid_trans HR (show _ = if xl ≤ c ∧ c ≤ xh then xv else spFind (l.drop (k + 1)) c from by rw [HD.out]; rfl)
   clear HR HD
   obtain ⟨b1, e1⟩ : ∃ b, decide (xl ≤ c) = b := ⟨_, rfl⟩
   obtain ⟨b2, e2⟩ : ∃ b, decide (c ≤ xh) = b := ⟨_, rfl⟩
   have HF : Hid (spFind l c = if (b1 && b2) = true then xv else spFind (l.drop (k + 1)) c) := Lib.hid (by rw [HS.out, ← e1, ← e2]; simp only [Bool.and_eq_true, decide_eq_true_eq])
   clear HS
   cases b1 <;> cases b2
   case true.true =>
    go_wp2_with fail
    go_ret
    exact ⟨ret_int HF.out.symm, hb.alloc_ _⟩
   all_goals
    go_wp2_with fail
    go_roundw
    case rel => exact ⟨k + 1, by omega, by go_num, HF, hb.alloc_ _⟩
    case measure => simp [intOf]; omega
  ·have HF := hid_trans HR (show _ = 0 from by rw [drop_all l k (by omega)]; rfl)
   clear HR
   go_wp2_with fail
   go_ret
   exact ⟨ret_int HF.out.symm, hb⟩
theorem rclass_spec (t : TV) (T : Tbl) (c : Int) (w : World) (ht : TblS w t T) :
  Calls Tryz.prog 68 #[t.v, .int .i64 c] w fun e w' => e = .returned (.int .i64 (clsT T c)) ∧ Ext w w' := by
 have hx := ht.cls.ext ((Ext.refl w).alloc_ (.cells t.v.cells 26))
 go_enter Tryz.func68, Tryz.ntmps68
 go_wp2_with (go_at_call 89; refine (rvalue_spec _ _ _ T.cls _ _ hx).mono ?_; rintro e w1 ⟨rfl, hb⟩)
 go_ret
 exact ⟨rfl, ((Ext.refl w).alloc_ _).trans' hb⟩
theorem rjoining_spec (t : TV) (T : Tbl) (c : Int) (w : World) (ht : TblS w t T) :
  Calls Tryz.prog 176 #[t.v, .int .i64 c] w fun e w' => e = .returned (.int .i64 (joiT T c)) ∧ Ext w w' := by
 have hx := ht.joi.ext ((Ext.refl w).alloc_ (.cells t.v.cells 26))
 go_enter Tryz.func176, Tryz.ntmps176
 go_wp2_with (go_at_call 89; refine (rvalue_spec _ _ _ T.joi _ _ hx).mono ?_; rintro e w1 ⟨rfl, hb⟩)
 go_ret
 exact ⟨rfl, ((Ext.refl w).alloc_ _).trans' hb⟩
theorem rignorable_spec (t : TV) (T : Tbl) (c : Int) (w : World) (ht : TblS w t T) :
  Calls Tryz.prog 90 #[t.v, .int .i64 c] w fun e w' => e = .returned (.bool (ignT T c)) ∧ Ext w w' := by
 have hx := ht.ign.ext ((Ext.refl w).alloc_ (.cells t.v.cells 26))
 go_enter Tryz.func90, Tryz.ntmps90
 go_wp2_with (go_at_call 89; refine (rvalue_spec _ _ _ T.ign _ _ hx).mono ?_; rintro e w1 ⟨rfl, hb⟩)
 go_ret
 exact ⟨rfl, ((Ext.refl w).alloc_ _).trans' hb⟩
end Go.Proofs.YtbdabjhankgcmaaGreatDoor
