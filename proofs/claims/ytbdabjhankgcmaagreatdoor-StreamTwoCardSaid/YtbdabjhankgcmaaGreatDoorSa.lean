/- Walk: namedesklaw9.awake. -/
import Derived.Test.YtbdabjhankgcmaaGreatDoorSc
import Derived.Test.YtbdabjhankgcmaaGreatDoorPf
import Derived.Test.YtbdabjhankgcmaaGreatDoorGh
namespace Go.Proofs.YtbdabjhankgcmaaGreatDoor
open Go.RowKit
theorem glob0 {w : World} (h : Glob w) : Glob (hide [] w) := h.sub (fun p v hp => by rw [hide_nil]; exact hp)
theorem d9n : newE exD 8 = 0 := by decide +kernel
theorem d9a : pshE exD 8 [] 101 = 0 ∧ pshO exD [] 101 = [] ∧ pshH exD 8 [] 101 = [101] := by decide +kernel
theorem d9b : pshE exD 8 [101] 769 = 0 ∧ pshO exD [101] 769 = [] ∧ pshH exD 8 [101] 769 = [101, 769] := by decide +kernel
theorem d9c : pshE exD 8 [101, 769] 98 = 0 ∧ pshO exD [101, 769] 98 = [233] ∧ pshH exD 8 [101, 769] 98 = [98] := by decide +kernel
set_option maxHeartbeats 3200000 in
set_option maxRecDepth 100000 in
theorem awake9_spec (w : World) (hg : Glob w) : Calls Tryz.prog 27 #[] w fun e w' => e = .returned (.bool true) ∧ Ext w w' := by
 have HG := Lib.hid hg
 clear hg
 go_enter Tryz.func27, Tryz.ntmps27
 go_wp2_with fail
 refine (example9_spec w HG.out).mono ?_
 rintro e w1 ⟨t, rfl, ht, hb1⟩
 have HT := Lib.hid ht
 have HB1 := Lib.hid hb1
 clear ht hb1
 go_wp2_with fail
 refine (new_spec [] t exD 8 w1 HT.out (by simp) (glob0 (HG.out.ext HB1.out))).mono ?_
 rintro e w2 ⟨p, rfl, hb2, _, hn⟩
 obtain ⟨t', g, rfl, hg2, _, hS⟩ := hn d9n
 rw [d9n]
 have HS2 := Lib.hid hS
 have HB2 := Lib.hid (HB1.out.trans' hb2)
 have HZ2 : Hid (w.heap.size ≤ g) := Lib.hid (Nat.le_trans HB1.out.b.size hg2)
 clear hb2 hn hS hg2
 go_wp2_with fail
 refine (push_spec HS2.out (by simp) 101).mono ?_
 rintro e w3 ⟨B3, m3, q3, A3, n3, c3, rfl, hi3, hS3, _, _⟩
 rw [d9a.1]
 rw [d9a.2.1] at hi3
 rw [d9a.2.2] at hS3
 obtain rfl : m3 = 0 := hi3.len.1
 have HS3 := Lib.hid hS3
 clear hi3 hS3
 go_wp2_with fail
 refine (push_spec HS3.out (by simp) 769).mono ?_
 rintro e w4 ⟨B4, m4, q4, A4, n4, c4, rfl, hi4, hS4, _, _⟩
 rw [d9b.1]
 rw [d9b.2.1] at hi4
 rw [d9b.2.2] at hS4
 obtain rfl : m4 = 0 := hi4.len.1
 have HS4 := Lib.hid hS4
 clear hi4 hS4
 go_wp2_with fail
 refine (push_spec HS4.out (by simp) 98).mono ?_
 rintro e w5 ⟨B5, m5, q5, A5, n5, c5, rfl, hi5, hS5, _, _⟩
 rw [d9c.1]
 rw [d9c.2.1] at hi5
 rw [d9c.2.2] at hS5
 obtain rfl : m5 = 1 := hi5.len.1
 have HS5 := Lib.hid hS5
 have HI5 := Lib.hid hi5
 clear hi5 hS5
 have hx : Ext w5 (w5.alloc (.cells #[.int .i64 233] 3)) := (Ext.refl _).alloc_ _
 go_wp2_with (first
  | (go_at_call 20; refine (same_spec [233] [233] B5 1 q5 _ 1 1 _ (HI5.out.ext hx) (one_int w5 233)).mono ?_; rintro e w6 ⟨rfl, hb6⟩; rw [(sameB_eq _ _).2 rfl]; have HS6 := Lib.hid ((HS5.out.ext_ hx).ext_ hb6); clear hb6)
  | (go_at_call 30; refine (held_spec HS6.out).mono ?_; rintro e w7 ⟨rfl, rfl⟩))
 go_ret
 exact ⟨rfl, HB2.out.kp HS6.out.kp (fun b hb => by rw [List.mem_singleton] at hb; subst hb; exact HZ2.out)⟩
end Go.Proofs.YtbdabjhankgcmaaGreatDoor
