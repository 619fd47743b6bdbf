/- Walk: namedesklaw19.agrees. (By program: yg_gen.py.) -/
import Derived.Test.YtmgckljgkdahfaaGreatDoorYf
namespace Go.Proofs.YtmgckljgkdahfaaGreatDoor
open Go.RowKit

set_option maxHeartbeats 6400000 in
set_option maxRecDepth 100000 in
theorem sagrees_spec (t : TV) (T : Tbl) (l : List Int) (A : Option Addr) (n c : Nat) (x : Int) (m : BitVec 64) (w : World) (ht : TblS w t T) (h : IntS w ⟨A, n, c⟩ l) :
    Calls Tryz.prog 26 #[t.v, .slice A n c, .int .i64 x, .int .u64 (uv m)] w fun e w' => e = .returned (.bool true) ∧ Ext w w' := by
  obtain ⟨hn, _, _⟩ := h.len
  subst hn
  have hba : Ext w (w.alloc (.cells #[.slice t.s0.a t.s0.n t.s0.c, .slice t.s1.a t.s1.n t.s1.c, .slice t.s2.a t.s2.n t.s2.c, .slice t.s3.a t.s3.n t.s3.c, .slice t.s4.a t.s4.n t.s4.c, .slice t.s5.a t.s5.n t.s5.c, .slice t.s6.a t.s6.n t.s6.c, .slice t.s7.a t.s7.n t.s7.c, .slice t.s8.a t.s8.n t.s8.c, .slice t.s9.a t.s9.n t.s9.c, .slice t.s10.a t.s10.n t.s10.c, .slice t.s11.a t.s11.n t.s11.c] 26)) := (Ext.refl _).alloc_ _
  have HT := Lib.hid (ht.ext_ hba)
  have HI := Lib.hid (h.ext hba)
  clear h ht
  obtain ⟨ur, hur⟩ : ∃ v, uv (resolveT T l) = v := ⟨_, rfl⟩
  obtain ⟨er, her⟩ : ∃ v, ordErr T l = v := ⟨_, rfl⟩
  obtain ⟨lv, hlv⟩ : ∃ v, levelT T l = v := ⟨_, rfl⟩
  obtain ⟨us, hus⟩ : ∃ v, uv (setT T x) = v := ⟨_, rfl⟩
  obtain ⟨bs, hbs⟩ : ∃ v, singleT T l = v := ⟨_, rfl⟩
  obtain ⟨bc, hbc⟩ : ∃ v, coverT T l m = v := ⟨_, rfl⟩
  have R1 : Hid (∀ w', Ext (w.alloc (.cells #[.slice t.s0.a t.s0.n t.s0.c, .slice t.s1.a t.s1.n t.s1.c, .slice t.s2.a t.s2.n t.s2.c, .slice t.s3.a t.s3.n t.s3.c, .slice t.s4.a t.s4.n t.s4.c, .slice t.s5.a t.s5.n t.s5.c, .slice t.s6.a t.s6.n t.s6.c, .slice t.s7.a t.s7.n t.s7.c, .slice t.s8.a t.s8.n t.s8.c, .slice t.s9.a t.s9.n t.s9.c, .slice t.s10.a t.s10.n t.s10.c, .slice t.s11.a t.s11.n t.s11.c] 26)) w' → Calls Tryz.prog 23 #[t.v, .slice A l.length c] w' fun e w'' => e = .returned (.tuple #[.int .u64 ur, .int .i64 er]) ∧ Ext w' w'') := Lib.hid (fun w' hw' => by
    have h' := sresolve_spec t T l A l.length c w' (HT.out.ext_ hw') (HI.out.ext hw')
    rw [hur, her] at h'
    exact h')
  have R2 : Hid (∀ w', Ext (w.alloc (.cells #[.slice t.s0.a t.s0.n t.s0.c, .slice t.s1.a t.s1.n t.s1.c, .slice t.s2.a t.s2.n t.s2.c, .slice t.s3.a t.s3.n t.s3.c, .slice t.s4.a t.s4.n t.s4.c, .slice t.s5.a t.s5.n t.s5.c, .slice t.s6.a t.s6.n t.s6.c, .slice t.s7.a t.s7.n t.s7.c, .slice t.s8.a t.s8.n t.s8.c, .slice t.s9.a t.s9.n t.s9.c, .slice t.s10.a t.s10.n t.s10.c, .slice t.s11.a t.s11.n t.s11.c] 26)) w' → Calls Tryz.prog 24 #[t.v, .slice A l.length c] w' fun e w'' => e = .returned (.tuple #[.int .u64 ur, .int .i64 er]) ∧ Ext w' w'') := Lib.hid (fun w' hw' => by
    have h' := rresolve_spec t T l A l.length c w' (HT.out.ext_ hw') (HI.out.ext hw')
    rw [hur, her] at h'
    exact h')
  have V1 : Hid (∀ w', Ext (w.alloc (.cells #[.slice t.s0.a t.s0.n t.s0.c, .slice t.s1.a t.s1.n t.s1.c, .slice t.s2.a t.s2.n t.s2.c, .slice t.s3.a t.s3.n t.s3.c, .slice t.s4.a t.s4.n t.s4.c, .slice t.s5.a t.s5.n t.s5.c, .slice t.s6.a t.s6.n t.s6.c, .slice t.s7.a t.s7.n t.s7.c, .slice t.s8.a t.s8.n t.s8.c, .slice t.s9.a t.s9.n t.s9.c, .slice t.s10.a t.s10.n t.s10.c, .slice t.s11.a t.s11.n t.s11.c] 26)) w' → Calls Tryz.prog 21 #[t.v, .slice A l.length c] w' fun e w'' => e = .returned (.tuple #[.int .i64 lv, .int .i64 er]) ∧ Ext w' w'') := Lib.hid (fun w' hw' => by
    have h' := slevel_spec t T l A l.length c w' (HT.out.ext_ hw') (HI.out.ext hw')
    rw [hlv, her] at h'
    exact h')
  have V2 : Hid (∀ w', Ext (w.alloc (.cells #[.slice t.s0.a t.s0.n t.s0.c, .slice t.s1.a t.s1.n t.s1.c, .slice t.s2.a t.s2.n t.s2.c, .slice t.s3.a t.s3.n t.s3.c, .slice t.s4.a t.s4.n t.s4.c, .slice t.s5.a t.s5.n t.s5.c, .slice t.s6.a t.s6.n t.s6.c, .slice t.s7.a t.s7.n t.s7.c, .slice t.s8.a t.s8.n t.s8.c, .slice t.s9.a t.s9.n t.s9.c, .slice t.s10.a t.s10.n t.s10.c, .slice t.s11.a t.s11.n t.s11.c] 26)) w' → Calls Tryz.prog 22 #[t.v, .slice A l.length c] w' fun e w'' => e = .returned (.tuple #[.int .i64 lv, .int .i64 er]) ∧ Ext w' w'') := Lib.hid (fun w' hw' => by
    have h' := rlevel_spec t T l A l.length c w' (HT.out.ext_ hw') (HI.out.ext hw')
    rw [hlv, her] at h'
    exact h')
  have S1 : Hid (∀ w', Ext (w.alloc (.cells #[.slice t.s0.a t.s0.n t.s0.c, .slice t.s1.a t.s1.n t.s1.c, .slice t.s2.a t.s2.n t.s2.c, .slice t.s3.a t.s3.n t.s3.c, .slice t.s4.a t.s4.n t.s4.c, .slice t.s5.a t.s5.n t.s5.c, .slice t.s6.a t.s6.n t.s6.c, .slice t.s7.a t.s7.n t.s7.c, .slice t.s8.a t.s8.n t.s8.c, .slice t.s9.a t.s9.n t.s9.c, .slice t.s10.a t.s10.n t.s10.c, .slice t.s11.a t.s11.n t.s11.c] 26)) w' → Calls Tryz.prog 63 #[t.v, .int .i64 x] w' fun e w'' => e = .returned (.int .u64 us) ∧ Ext w' w'') := Lib.hid (fun w' hw' => by
    have h' := sSet_spec t T x w' (HT.out.ext_ hw')
    rw [hus] at h'
    exact h')
  have S2 : Hid (∀ w', Ext (w.alloc (.cells #[.slice t.s0.a t.s0.n t.s0.c, .slice t.s1.a t.s1.n t.s1.c, .slice t.s2.a t.s2.n t.s2.c, .slice t.s3.a t.s3.n t.s3.c, .slice t.s4.a t.s4.n t.s4.c, .slice t.s5.a t.s5.n t.s5.c, .slice t.s6.a t.s6.n t.s6.c, .slice t.s7.a t.s7.n t.s7.c, .slice t.s8.a t.s8.n t.s8.c, .slice t.s9.a t.s9.n t.s9.c, .slice t.s10.a t.s10.n t.s10.c, .slice t.s11.a t.s11.n t.s11.c] 26)) w' → Calls Tryz.prog 64 #[t.v, .int .i64 x] w' fun e w'' => e = .returned (.int .u64 us) ∧ Ext w' w'') := Lib.hid (fun w' hw' => by
    have h' := rSet_spec t T x w' (HT.out.ext_ hw')
    rw [hus] at h'
    exact h')
  have G1 : Hid (∀ w', Ext (w.alloc (.cells #[.slice t.s0.a t.s0.n t.s0.c, .slice t.s1.a t.s1.n t.s1.c, .slice t.s2.a t.s2.n t.s2.c, .slice t.s3.a t.s3.n t.s3.c, .slice t.s4.a t.s4.n t.s4.c, .slice t.s5.a t.s5.n t.s5.c, .slice t.s6.a t.s6.n t.s6.c, .slice t.s7.a t.s7.n t.s7.c, .slice t.s8.a t.s8.n t.s8.c, .slice t.s9.a t.s9.n t.s9.c, .slice t.s10.a t.s10.n t.s10.c, .slice t.s11.a t.s11.n t.s11.c] 26)) w' → Calls Tryz.prog 54 #[t.v, .slice A l.length c] w' fun e w'' => e = .returned (.bool bs) ∧ Ext w' w'') := Lib.hid (fun w' hw' => by
    have h' := ssingle_spec_ t T l A l.length c w' (HT.out.ext_ hw') (HI.out.ext hw')
    rw [hbs] at h'
    exact h')
  have G2 : Hid (∀ w', Ext (w.alloc (.cells #[.slice t.s0.a t.s0.n t.s0.c, .slice t.s1.a t.s1.n t.s1.c, .slice t.s2.a t.s2.n t.s2.c, .slice t.s3.a t.s3.n t.s3.c, .slice t.s4.a t.s4.n t.s4.c, .slice t.s5.a t.s5.n t.s5.c, .slice t.s6.a t.s6.n t.s6.c, .slice t.s7.a t.s7.n t.s7.c, .slice t.s8.a t.s8.n t.s8.c, .slice t.s9.a t.s9.n t.s9.c, .slice t.s10.a t.s10.n t.s10.c, .slice t.s11.a t.s11.n t.s11.c] 26)) w' → Calls Tryz.prog 60 #[t.v, .slice A l.length c] w' fun e w'' => e = .returned (.bool bs) ∧ Ext w' w'') := Lib.hid (fun w' hw' => by
    have h' := rsingle_spec t T l A l.length c w' (HT.out.ext_ hw') (HI.out.ext hw')
    rw [hbs] at h'
    exact h')
  have C1 : Hid (∀ w', Ext (w.alloc (.cells #[.slice t.s0.a t.s0.n t.s0.c, .slice t.s1.a t.s1.n t.s1.c, .slice t.s2.a t.s2.n t.s2.c, .slice t.s3.a t.s3.n t.s3.c, .slice t.s4.a t.s4.n t.s4.c, .slice t.s5.a t.s5.n t.s5.c, .slice t.s6.a t.s6.n t.s6.c, .slice t.s7.a t.s7.n t.s7.c, .slice t.s8.a t.s8.n t.s8.c, .slice t.s9.a t.s9.n t.s9.c, .slice t.s10.a t.s10.n t.s10.c, .slice t.s11.a t.s11.n t.s11.c] 26)) w' → Calls Tryz.prog 65 #[t.v, .slice A l.length c, .int .u64 (uv m)] w' fun e w'' => e = .returned (.bool bc) ∧ Ext w' w'') := Lib.hid (fun w' hw' => by
    have h' := sCovered_spec t T l m A l.length c w' (HT.out.ext_ hw') (HI.out.ext hw')
    rw [hbc] at h'
    exact h')
  have C2 : Hid (∀ w', Ext (w.alloc (.cells #[.slice t.s0.a t.s0.n t.s0.c, .slice t.s1.a t.s1.n t.s1.c, .slice t.s2.a t.s2.n t.s2.c, .slice t.s3.a t.s3.n t.s3.c, .slice t.s4.a t.s4.n t.s4.c, .slice t.s5.a t.s5.n t.s5.c, .slice t.s6.a t.s6.n t.s6.c, .slice t.s7.a t.s7.n t.s7.c, .slice t.s8.a t.s8.n t.s8.c, .slice t.s9.a t.s9.n t.s9.c, .slice t.s10.a t.s10.n t.s10.c, .slice t.s11.a t.s11.n t.s11.c] 26)) w' → Calls Tryz.prog 61 #[t.v, .slice A l.length c, .int .u64 (uv m)] w' fun e w'' => e = .returned (.bool bc) ∧ Ext w' w'') := Lib.hid (fun w' hw' => by
    have h' := rCovered_spec t T l m A l.length c w' (HT.out.ext_ hw') (HI.out.ext hw')
    rw [hbc] at h'
    exact h')
  have e1 : (ur == ur) = true := by rw [beq_self_eq_true]
  have e2 : (er == er) = true := by rw [beq_self_eq_true]
  have e3 : (lv == lv) = true := by rw [beq_self_eq_true]
  have e4 : (us == us) = true := by rw [beq_self_eq_true]
  have e5 : (bs == bs) = true := by rw [beq_self_eq_true]
  have e6 : (bc == bc) = true := by rw [beq_self_eq_true]
  clear hur her hlv hus hbs hbc
  go_enter Tryz.func26, Tryz.ntmps26
  go_wp2_with fail
  refine (R1.out _ (Ext.refl _)).mono ?_
  rintro e w1 ⟨rfl, hb1⟩
  have HX1 := Lib.hid (hb1)
  have rT1 : ∀ k : Nat, w1.cell? ⟨w.heap.size, k, none⟩ = t.v.cells[k]? := box_at HX1.out
  clear hb1
  go_wp2_with fail
  refine (R2.out _ HX1.out).mono ?_
  rintro e w2 ⟨rfl, hb2⟩
  have HX2 := Lib.hid (HX1.out.trans' hb2)
  have rT2 : ∀ k : Nat, w2.cell? ⟨w.heap.size, k, none⟩ = t.v.cells[k]? := box_at HX2.out
  clear hb2 rT1
  go_wp2_with fail
  refine (V1.out _ HX2.out).mono ?_
  rintro e w3 ⟨rfl, hb3⟩
  have HX3 := Lib.hid (HX2.out.trans' hb3)
  have rT3 : ∀ k : Nat, w3.cell? ⟨w.heap.size, k, none⟩ = t.v.cells[k]? := box_at HX3.out
  clear hb3 rT2
  go_wp2_with fail
  refine (V2.out _ HX3.out).mono ?_
  rintro e w4 ⟨rfl, hb4⟩
  have HX4 := Lib.hid (HX3.out.trans' hb4)
  have rT4 : ∀ k : Nat, w4.cell? ⟨w.heap.size, k, none⟩ = t.v.cells[k]? := box_at HX4.out
  clear hb4 rT3
  go_wp2_with fail
  have rT : ∀ z : ExtW w4, ∀ p : Nat, z.w.cell? ⟨w.heap.size, p, none⟩ = t.v.cells[p]? := fun z => box_at (HX4.out.trans' z.h)
  have S1z : Hid (∀ z : ExtW w4, Calls Tryz.prog 63 #[t.v, .int .i64 x] z.w fun e w'' => e = .returned (.int .u64 us) ∧ Ext z.w w'') := Lib.hid (fun z => S1.out z.w (HX4.out.trans' z.h))
  have S2z : Hid (∀ z : ExtW w4, Calls Tryz.prog 64 #[t.v, .int .i64 x] z.w fun e w'' => e = .returned (.int .u64 us) ∧ Ext z.w w'') := Lib.hid (fun z => S2.out z.w (HX4.out.trans' z.h))
  have G1z : Hid (∀ z : ExtW w4, Calls Tryz.prog 54 #[t.v, .slice A l.length c] z.w fun e w'' => e = .returned (.bool bs) ∧ Ext z.w w'') := Lib.hid (fun z => G1.out z.w (HX4.out.trans' z.h))
  have G2z : Hid (∀ z : ExtW w4, Calls Tryz.prog 60 #[t.v, .slice A l.length c] z.w fun e w'' => e = .returned (.bool bs) ∧ Ext z.w w'') := Lib.hid (fun z => G2.out z.w (HX4.out.trans' z.h))
  have C1z : Hid (∀ z : ExtW w4, Calls Tryz.prog 65 #[t.v, .slice A l.length c, .int .u64 (uv m)] z.w fun e w'' => e = .returned (.bool bc) ∧ Ext z.w w'') := Lib.hid (fun z => C1.out z.w (HX4.out.trans' z.h))
  have C2z : Hid (∀ z : ExtW w4, Calls Tryz.prog 61 #[t.v, .slice A l.length c, .int .u64 (uv m)] z.w fun e w'' => e = .returned (.bool bc) ∧ Ext z.w w'') := Lib.hid (fun z => C2.out z.w (HX4.out.trans' z.h))
  clear rT4
  refine region_ext (by kernel_rfl) (by kernel_rfl) ?_
  repeat (go_big_quiet_step (first | (go_at_call 63; with_reducible exact quiet_ext (S1z.out _)) | (go_at_call 64; with_reducible exact quiet_ext (S2z.out _)) | (go_at_call 54; with_reducible exact quiet_ext (G1z.out _)) | (go_at_call 60; with_reducible exact quiet_ext (G2z.out _)) | (go_at_call 65; with_reducible exact quiet_ext (C1z.out _)) | (go_at_call 61; with_reducible exact quiet_ext (C2z.out _))))
  refine wpQuiet_nil ?_
  rintro _ ⟨z, rfl⟩
  clear rT
  have hx := hba.trans' (HX4.out.trans' z.h)
  go_wp2_with fail
  go_ret
  exact ⟨rfl, hx⟩
end Go.Proofs.YtmgckljgkdahfaaGreatDoor
