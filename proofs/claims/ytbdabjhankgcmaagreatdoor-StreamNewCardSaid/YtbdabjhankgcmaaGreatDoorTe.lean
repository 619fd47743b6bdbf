/- Walk: namedesklaw9.StreamNew. (By program: te_gen.py.) -/
import Derived.Test.YtbdabjhankgcmaaGreatDoorTz
import Derived.Test.YtbdabjhankgcmaaGreatDoorOy
namespace Go.Proofs.YtbdabjhankgcmaaGreatDoor
open Go.RowKit
theorem hid0 {w : World} {t : TV} {T : Tbl} (h : TblS w t T) : TblS (hide [] w) t T := h.sub (fun p v hp => by rw [hide_nil]; exact hp)
theorem new_cases {T : Tbl} {most : Int} {p : Option Addr} {C : TV → Nat → Prop} (h1 : newE T most ≠ 0 → p = none) (h2 : newE T most = 0 → ∃ t' g, p = some ⟨g, 0, none⟩ ∧ C t' g) : (∃ g, p = some ⟨g, 0, none⟩ ∧ (newE T most == 0) = true) ∨ (p = none ∧ (newE T most == 0) = false) := by
 by_cases h : newE T most = 0
 ·obtain ⟨_, g, hp, _⟩ := h2 h
  exact .inl ⟨g, hp, by rw [beq_iff_eq]; exact h⟩
 ·exact .inr ⟨h1 h, by rw [beq_eq_false_iff_ne]; exact h⟩
set_option maxHeartbeats 25600000 in
set_option maxRecDepth 100000 in
theorem streamNew_spec (l : List Int) (how at_ v most c0 : Int) (t : TV) (T : Tbl) (A : Option Addr) (n c : Nat) (w : World) (h : IntS w ⟨A, n, c⟩ l) (ht : TblS w t T) (hg : Glob w) :
  Calls Tryz.prog 4 #[.slice A n c, .int .i64 how, .int .i64 at_, .int .i64 v, .int .i64 most, .int .i64 c0, t.v] w fun e w' => e = .returned (.bool true) ∧ Ext w w' := by
 have HG := Lib.hid hg
 have HL := Lib.hid h
 have hba := tw_ext w t
 obtain ⟨w0, hw0⟩ : ∃ w0, w0 = (w.alloc (.cells #[.slice t.s0.a t.s0.n t.s0.c, .slice t.s1.a t.s1.n t.s1.c, .slice t.s2.a t.s2.n t.s2.c, .slice t.s3.a t.s3.n t.s3.c, .slice t.s4.a t.s4.n t.s4.c, .slice t.s5.a t.s5.n t.s5.c, .slice t.s6.a t.s6.n t.s6.c, .slice t.s7.a t.s7.n t.s7.c, .slice t.s8.a t.s8.n t.s8.c, .slice t.s9.a t.s9.n t.s9.c, .slice t.s10.a t.s10.n t.s10.c, .slice t.s11.a t.s11.n t.s11.c] 26)) := ⟨_, rfl⟩
 rw [← hw0] at hba
 have HT0 := Lib.hid ht
 have HB0 := Lib.hid hba
 have HR0 : Hid (∀ w', Ext w0 w' → ∀ k : Nat, w'.cell? ⟨w.heap.size, k, none⟩ = t.v.cells[k]?) := Lib.hid (fun w' h => by rw [hw0] at h; exact box_at h)
 have hp35 := pickV_bd most (n := 35) (by decide)
 have HPK : Hid (∀ w' : World, Calls Tryz.prog 15 #[.int .i64 most, .int .i64 35] w' fun e w'' => e = .returned (.int .i64 (pickV most 35)) ∧ w' = w'') := Lib.hid (fun w' => kpick_spec most 35 (by decide) (by decide) w')
 generalize pickV most 35 = p at *
 obtain ⟨q, hq⟩ : ∃ q, p - 1 = q := ⟨_, rfl⟩
 clear hg h ht hba
 go_enter Tryz.func4, Tryz.ntmps4
 go_wp2_with fail
 rw [← hw0]
 clear hw0
 refine Calls.mono (tables_spec l A n c _ (HL.out.ext HB0.out) (HG.out.ext HB0.out)) ?_
 rintro e w4 ⟨t1, rfl, ht1, hb4⟩
 obtain ⟨w5, hw5⟩ : ∃ w5, w5 = w4.alloc (.cells #[.slice t1.s0.a t1.s0.n t1.s0.c, .slice t1.s1.a t1.s1.n t1.s1.c, .slice t1.s2.a t1.s2.n t1.s2.c, .slice t1.s3.a t1.s3.n t1.s3.c, .slice t1.s4.a t1.s4.n t1.s4.c, .slice t1.s5.a t1.s5.n t1.s5.c, .slice t1.s6.a t1.s6.n t1.s6.c, .slice t1.s7.a t1.s7.n t1.s7.c, .slice t1.s8.a t1.s8.n t1.s8.c, .slice t1.s9.a t1.s9.n t1.s9.c, .slice t1.s10.a t1.s10.n t1.s10.c, .slice t1.s11.a t1.s11.n t1.s11.c] 26) := ⟨_, rfl⟩
 have hx5 : Ext w4 w5 := by rw [hw5]; exact (Ext.refl _).alloc_ _
 have HR1 : Hid (∀ w', Ext w5 w' → ∀ k : Nat, w'.cell? ⟨w4.heap.size, k, none⟩ = t1.v.cells[k]?) := Lib.hid (fun w' h => by rw [hw5] at h; exact box_at h)
 have HW := Lib.hid (made_wf l)
 have HT1 := Lib.hid (ht1.ext_ hx5)
 have HB5 := Lib.hid (hb4.trans' hx5)
 have rT1 := HR1.out w5 (Ext.refl _)
 clear ht1 hb4 hx5
 go_wp2_with fail
 rw [← hw5]
 clear hw5
 refine Calls.mono (other_spec t1 (madeT l) how at_ v _ HT1.out (small_wf HW.out)) ?_
 rintro e w6 ⟨t2, T2, rfl, ht2, hb6⟩
 obtain ⟨w7, hw7⟩ : ∃ w7, w7 = w6.alloc (.cells #[.slice t2.s0.a t2.s0.n t2.s0.c, .slice t2.s1.a t2.s1.n t2.s1.c, .slice t2.s2.a t2.s2.n t2.s2.c, .slice t2.s3.a t2.s3.n t2.s3.c, .slice t2.s4.a t2.s4.n t2.s4.c, .slice t2.s5.a t2.s5.n t2.s5.c, .slice t2.s6.a t2.s6.n t2.s6.c, .slice t2.s7.a t2.s7.n t2.s7.c, .slice t2.s8.a t2.s8.n t2.s8.c, .slice t2.s9.a t2.s9.n t2.s9.c, .slice t2.s10.a t2.s10.n t2.s10.c, .slice t2.s11.a t2.s11.n t2.s11.c] 26) := ⟨_, rfl⟩
 have hx7 : Ext w6 w7 := by rw [hw7]; exact (Ext.refl _).alloc_ _
 have HR2 : Hid (∀ w', Ext w7 w' → ∀ k : Nat, w'.cell? ⟨w6.heap.size, k, none⟩ = t2.v.cells[k]?) := Lib.hid (fun w' h => by rw [hw7] at h; exact box_at h)
 have HT2 := Lib.hid (ht2.ext_ hx7)
 have HB57 := Lib.hid (hb6.trans' hx7)
 have HG7 : Hid (Glob w7) := Lib.hid (HG.out.ext (HB0.out.trans' (HB5.out.trans' HB57.out)))
 have HT17 := Lib.hid (HT1.out.ext_ HB57.out)
 have HT07 := Lib.hid (HT0.out.ext_ (HB0.out.trans' (HB5.out.trans' HB57.out)))
 have HR17 : Hid (∀ w', Ext w7 w' → ∀ k : Nat, w'.cell? ⟨w4.heap.size, k, none⟩ = t1.v.cells[k]?) := Lib.hid (fun w' h => HR1.out w' (HB57.out.trans' h))
 have HR07 : Hid (∀ w', Ext w7 w' → ∀ k : Nat, w'.cell? ⟨w.heap.size, k, none⟩ = t.v.cells[k]?) := Lib.hid (fun w' h => HR0.out w' (HB5.out.trans' (HB57.out.trans' h)))
 have HB7 : Hid (Ext w w7) := Lib.hid (HB0.out.trans' (HB5.out.trans' HB57.out))
 have HL7 := Lib.hid (HL.out.ext HB7.out)
 have rT7 : ∀ k : Nat, (w6.alloc (.cells #[.slice t2.s0.a t2.s0.n t2.s0.c, .slice t2.s1.a t2.s1.n t2.s1.c, .slice t2.s2.a t2.s2.n t2.s2.c, .slice t2.s3.a t2.s3.n t2.s3.c, .slice t2.s4.a t2.s4.n t2.s4.c, .slice t2.s5.a t2.s5.n t2.s5.c, .slice t2.s6.a t2.s6.n t2.s6.c, .slice t2.s7.a t2.s7.n t2.s7.c, .slice t2.s8.a t2.s8.n t2.s8.c, .slice t2.s9.a t2.s9.n t2.s9.c, .slice t2.s10.a t2.s10.n t2.s10.c, .slice t2.s11.a t2.s11.n t2.s11.c] 26)).cell? ⟨w4.heap.size, k, none⟩ = t1.v.cells[k]? := by rw [← hw7]; exact HR17.out w7 (Ext.refl _)
 clear ht2 hb6 hx7 rT1 HR0 HR1 HB0 HB5 HB57 HT0 HT1 HL HG
 generalize madeT l = T1 at *
 go_wp2_with fail
 rw [← hw7]
 clear hw7 rT7
 refine (new_spec [] t1 T1 most w7 HT17.out (by simp) (glob0 HG7.out)).mono ?_
 rintro e w8 ⟨p8, rfl, hb8, hn1, hn2⟩
 have hcs := new_cases hn1 hn2
 have HX8 := Lib.hid hb8
 have rT8 := HR17.out w8 hb8
 obtain ⟨e1, he1⟩ : ∃ e1, newE T1 most = e1 := ⟨_, rfl⟩
 have HE1 := Lib.hid he1
 rw [he1] at hcs
 rw [he1]
 clear hb8 hn1 hn2 he1
 rcases hcs with ⟨g8, rfl, de⟩ | ⟨rfl, de⟩
 all_goals
  go_wp2_with fail
  refine (rnew_spec [] t1 T1 most w8 (HT17.out.ext_ HX8.out) (hid0 (HT17.out.ext_ HX8.out))).mono ?_
  rintro e w9 ⟨p9, rfl, hb9, _, _⟩
  have HX9 := Lib.hid (HX8.out.trans' hb9)
  rw [HE1.out]
  clear hb9 rT8
  go_wp2_with fail
  refine region_x [([0, 1], 2), ([3], 4)] [5, 6, 7, 8, 9] (by kernel_rfl) (by kernel_rfl) ?_
  refine segW_cons (by repeat (first | exact OpsAre.nil | exact OpAt.zero | apply OpAt.succ | apply OpsAre.cons)) (by repeat (first | exact OpAt.zero | apply OpAt.succ)) ?_
  have rT : ∀ yy : ExtW w9.drew, ∀ k : Nat, yy.w.cell? ⟨w6.heap.size, k, none⟩ = t2.v.cells[k]? := fun yy => HR2.out _ (HX9.out.trans' ((Ext.refl w9).drew_.trans' yy.h))
  repeat (go_big_quiet_step (fail))
  refine wpQuiet_nil ?_
  clear rT
  go_wp2_with fail
  refine (HPK.out _).mono ?_
  rintro e w' ⟨rfl, rfl⟩
  go_wp2_with fail
  refine segK_mk (Ext.refl _) ?_
  refine segW_cons (by repeat (first | exact OpsAre.nil | exact OpAt.zero | apply OpAt.succ | apply OpsAre.cons)) (by repeat (first | exact OpAt.zero | apply OpAt.succ)) ?_
  repeat (go_big_quiet_step (fail))
  refine wpQuiet_nil ?_
  go_wp2_with fail
  have HD : Hid (Ext w7 w9.drew) := Lib.hid HX9.out.drew_
  refine (new_spec [] t2 T2 q w9.drew (HT2.out.ext_ HD.out) (by simp) (glob0 (HG7.out.ext HD.out))).mono ?_
  rintro e w10 ⟨p10, rfl, hb, _, _⟩
  go_wp2_with fail
  refine segK_mk hb ?_
  have HX10 := Lib.hid (HD.out.trans' hb)
  clear hb HD
  refine segW_nil (by repeat (first | exact OpsAre.nil | exact OpAt.zero | apply OpAt.succ | apply OpsAre.cons)) ?_
  repeat (go_big_quiet_step (fail))
  refine wpQuiet_nil ?_
  obtain ⟨e2, he2⟩ : ∃ e2, newE T2 q = e2 := ⟨_, rfl⟩
  have HE2 := Lib.hid he2
  rw [he2]
  clear he2
  go_wp2_with fail
  refine region_x [([0, 1], 2), ([3], 4)] [5, 6, 7, 8, 9] (by kernel_rfl) (by kernel_rfl) ?_
  refine segW_cons (by repeat (first | exact OpsAre.nil | exact OpAt.zero | apply OpAt.succ | apply OpsAre.cons)) (by repeat (first | exact OpAt.zero | apply OpAt.succ)) ?_
  have rT : ∀ yy : ExtW w10.drew, ∀ k : Nat, yy.w.cell? ⟨w6.heap.size, k, none⟩ = t2.v.cells[k]? := fun yy => HR2.out _ (HX10.out.trans' ((Ext.refl w10).drew_.trans' yy.h))
  repeat (go_big_quiet_step (fail))
  refine wpQuiet_nil ?_
  clear rT
  go_wp2_with fail
  refine (HPK.out _).mono ?_
  rintro e w' ⟨rfl, rfl⟩
  go_wp2_with fail
  refine segK_mk (Ext.refl _) ?_
  refine segW_cons (by repeat (first | exact OpsAre.nil | exact OpAt.zero | apply OpAt.succ | apply OpsAre.cons)) (by repeat (first | exact OpAt.zero | apply OpAt.succ)) ?_
  repeat (go_big_quiet_step (fail))
  refine wpQuiet_nil ?_
  go_wp2_with fail
  have HD : Hid (Ext w7 w10.drew) := Lib.hid HX10.out.drew_
  refine (rnew_spec [] t2 T2 q w10.drew (HT2.out.ext_ HD.out) (hid0 (HT2.out.ext_ HD.out))).mono ?_
  rintro e w11 ⟨p11, rfl, hb, _, _⟩
  go_wp2_with fail
  refine segK_mk hb ?_
  have HX11 := Lib.hid (HD.out.trans' hb)
  clear hb HD
  refine segW_nil (by repeat (first | exact OpsAre.nil | exact OpAt.zero | apply OpAt.succ | apply OpsAre.cons)) ?_
  repeat (go_big_quiet_step (fail))
  refine wpQuiet_nil ?_
  rw [HE2.out]
  have rT11 := HR07.out w11 HX11.out
  go_wp2_with fail
  refine (new_spec [] t T 4 w11 (HT07.out.ext_ HX11.out) (by simp) (glob0 (HG7.out.ext HX11.out))).mono ?_
  rintro e w12 ⟨p12, rfl, hb, _, _⟩
  obtain ⟨e3, he3⟩ : ∃ e3, newE T 4 = e3 := ⟨_, rfl⟩
  have HE3 := Lib.hid he3
  rw [he3]
  have HX12 := Lib.hid (HX11.out.trans' hb)
  have rT12 := HR07.out w12 HX12.out
  clear he3 hb rT11
  go_wp2_with fail
  refine (rnew_spec [] t T 4 w12 (HT07.out.ext_ HX12.out) (hid0 (HT07.out.ext_ HX12.out))).mono ?_
  rintro e w13 ⟨p13, rfl, hb, _, _⟩
  rw [HE3.out]
  have HX13 := Lib.hid (HX12.out.trans' hb)
  clear hb rT12
  go_wp2_with fail
  refine (dense9_own l A n c w13 (HL7.out.ext HX13.out)).mono ?_
  rintro e w14 ⟨B14, m14, d14, rfl, ho, hb⟩
  have hll := dens9_len l
  have hx : Ext w14 (w14.alloc (.cells #[.int .i64 c0] 3)) := (Ext.refl _).alloc_ _
  have hm := (OwnI.ints ho).len.1
  obtain ⟨A15, c15, w15, hrun, hown, hgr, _⟩ := append_ints (Own.ext ho hx) (one_int w14 c0) (by omega) (by have := hb.b.size; have := Own.lt ho; simp; omega)
  have HX15 : Hid (Ext w7 w15) := Lib.hid (HX13.out.trans' (ext_of_grown (hb.alloc_ _) hgr (fun k hk => by have := (Own.lt ho k hk).1; omega)))
  have hI := OwnI.ints hown
  have hle : m14 + 1 = (dens9 l ++ [c0]).length := by simp [hm]
  rw [hle] at hrun hI
  have hL : (dens9 l ++ [c0]).length < 17 := by simp; omega
  have HI := Lib.hid hI
  clear ho hb hx hm hll hown hgr hle hI
  generalize dens9 l ++ [c0] = L at *
  go_wp2_with (at_builtin; refine wpList_run_append rfl _ _ _ rfl _ _ rfl rfl _ _ hrun ?_)
  go_loopg [84] L.length (fun gh s wx => ∃ k : Nat, k + gh = L.length ∧ s = .int .i64 k ∧ Hid (Ext w15 wx))
  case atStart => exact ⟨0, by omega, rfl, Lib.hid (Ext.refl _)⟩
  case round =>
   obtain ⟨k, hkg, rfl, HB⟩ := hrel
   by_cases hlt : k < L.length
   ·obtain ⟨gk', rfl⟩ : ∃ g', gk = g' + 1 := ⟨gk - 1, by omega⟩
    obtain ⟨b, o, hA, hcx⟩ := (HI.out.ext HB.out).at_ hlt
    subst hA
    generalize L[k] = x at *
    have hk0 : (0 : Int) ≤ (k : Int) := Int.natCast_nonneg _
    have hk1 : (k : Int) < (L.length : Int) := by omega
    have C1 : Hid (∀ w', Ext w7 w' → Calls Tryz.prog 25 #[t1.v, .int .i64 x] w' fun e w'' => e = .returned (.bool (bndB T1 x)) ∧ Ext w' w'') := Lib.hid (fun w' h => bnd_spec T1 t1 x w' (HT17.out.ext_ h))
    have C2 : Hid (∀ w', Ext w7 w' → Calls Tryz.prog 26 #[t1.v, .int .i64 x] w' fun e w'' => e = .returned (.bool (bndB T1 x)) ∧ Ext w' w'') := Lib.hid (fun w' h => rbnd_spec T1 t1 x w' (HT17.out.ext_ h))
    have C3 : Hid (∀ w', Ext w7 w' → Calls Tryz.prog 25 #[t2.v, .int .i64 x] w' fun e w'' => e = .returned (.bool (bndB T2 x)) ∧ Ext w' w'') := Lib.hid (fun w' h => bnd_spec T2 t2 x w' (HT2.out.ext_ h))
    have C4 : Hid (∀ w', Ext w7 w' → Calls Tryz.prog 26 #[t2.v, .int .i64 x] w' fun e w'' => e = .returned (.bool (bndB T2 x)) ∧ Ext w' w'') := Lib.hid (fun w' h => rbnd_spec T2 t2 x w' (HT2.out.ext_ h))
    obtain ⟨b1, h1⟩ : ∃ b1, bndB T1 x = b1 := ⟨_, rfl⟩
    obtain ⟨b2, h2⟩ : ∃ b2, bndB T2 x = b2 := ⟨_, rfl⟩
    rw [h1] at C1 C2
    rw [h2] at C3 C4
    clear h1 h2
    have d1 : (b1 != b1) = false := by simp
    have d2 : (b2 != b2) = false := by simp
    have HBX : Hid (Ext w7 wr.drew) := Lib.hid (HX15.out.trans' HB.out.drew_)
    go_wp2_with fail
    refine region_x [([0, 1, 3, 4], 2), ([], 5), ([6, 7, 8, 9, 11, 12], 10), ([], 13)] [14, 15] (by kernel_rfl) (by kernel_rfl) ?_
    refine segW_cons (by repeat (first | exact OpsAre.nil | exact OpAt.zero | apply OpAt.succ | apply OpsAre.cons)) (by repeat (first | exact OpAt.zero | apply OpAt.succ)) ?_
    have rT : ∀ yy : ExtW wr.drew, ∀ k : Nat, yy.w.cell? ⟨w4.heap.size, k, none⟩ = t1.v.cells[k]? := fun yy => HR17.out _ (HBX.out.trans' yy.h)
    repeat (go_big_quiet_step (fail))
    refine wpQuiet_nil ?_
    clear rT hcx
    go_wp2_with fail
    refine (C1.out _ HBX.out).mono ?_
    rintro e wa ⟨rfl, hba⟩
    have HBa := Lib.hid (HBX.out.trans' hba)
    go_wp2_with fail
    refine segK_mk hba ?_
    have HSa := Lib.hid hba
    clear hba
    refine segW_cons (by repeat (first | exact OpsAre.nil | exact OpAt.zero | apply OpAt.succ | apply OpsAre.cons)) (by repeat (first | exact OpAt.zero | apply OpAt.succ)) ?_
    refine wpQuiet_nil ?_
    go_wp2_with fail
    refine (C2.out _ HBa.out).mono ?_
    rintro e wb ⟨rfl, hbb⟩
    have HBb := Lib.hid (HBa.out.trans' hbb)
    go_wp2_with fail
    refine segK_mk hbb ?_
    have HSb := Lib.hid hbb
    clear hbb
    refine segW_cons (by repeat (first | exact OpsAre.nil | exact OpAt.zero | apply OpAt.succ | apply OpsAre.cons)) (by repeat (first | exact OpAt.zero | apply OpAt.succ)) ?_
    have rT : ∀ yy : ExtW wb, ∀ k : Nat, yy.w.cell? ⟨w6.heap.size, k, none⟩ = t2.v.cells[k]? := fun yy => HR2.out _ (HBb.out.trans' yy.h)
    repeat (go_big_quiet_step (fail))
    refine wpQuiet_nil ?_
    clear rT
    go_wp2_with fail
    refine (C3.out _ HBb.out).mono ?_
    rintro e wc ⟨rfl, hbc⟩
    have HBc := Lib.hid (HBb.out.trans' hbc)
    go_wp2_with fail
    refine segK_mk hbc ?_
    have HSc := Lib.hid hbc
    clear hbc
    refine segW_cons (by repeat (first | exact OpsAre.nil | exact OpAt.zero | apply OpAt.succ | apply OpsAre.cons)) (by repeat (first | exact OpAt.zero | apply OpAt.succ)) ?_
    refine wpQuiet_nil ?_
    go_wp2_with fail
    refine (C4.out _ HBc.out).mono ?_
    rintro e wd ⟨rfl, hbd⟩
    have HBd := Lib.hid (HBc.out.trans' hbd)
    go_wp2_with fail
    refine segK_mk hbd ?_
    have HSd := Lib.hid hbd
    clear hbd
    refine segW_nil (by repeat (first | exact OpsAre.nil | exact OpAt.zero | apply OpAt.succ | apply OpsAre.cons)) ?_
    repeat (go_big_quiet_step (fail))
    refine wpQuiet_nil ?_
    go_wp2_with fail
    go_roundg gk'
    case measure => omega
    case rel => exact ⟨k + 1, by omega, by go_num, Lib.hid ((HB.out.drew_.trans' HSa.out).trans' (HSb.out.trans' (HSc.out.trans' HSd.out)))⟩
   ·have HBR : Hid (Ext w7 wr) := Lib.hid (HX15.out.trans' HB.out)
    go_wp2_with fail
    refine (awake9_spec wr (HG7.out.ext HBR.out)).mono ?_
    rintro e wa ⟨rfl, hba⟩
    have hb := HB7.out.trans' (HBR.out.trans' hba)
    go_wp2_with fail
    go_ret
    exact ⟨rfl, hb⟩
end Go.Proofs.YtbdabjhankgcmaaGreatDoor
