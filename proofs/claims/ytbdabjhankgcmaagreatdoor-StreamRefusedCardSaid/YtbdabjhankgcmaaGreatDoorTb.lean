/- Walk: namedesklaw9.StreamRefused. -/
import Derived.Test.YtbdabjhankgcmaaGreatDoorTz
namespace Go.Proofs.YtbdabjhankgcmaaGreatDoor
open Go.RowKit
theorem ints_kp {w w' : World} {B : Option Addr} {m d : Nat} {l : List Int} {M : List Nat} (h : IntS w ⟨B, m, d⟩ l) (k : Kp M w w') (hM : ∀ b, blkOf B = some b → b ∉ M) : IntS w' ⟨B, m, d⟩ l :=
 ⟨h.1, fun i x hx => by
  obtain ⟨b, o, ha, hc⟩ := h.2 i x hx
  exact ⟨b, o, ha, by rw [k.cell ⟨b, o + i, none⟩ (World.block_lt_of_cell? _ _ hc) (hM b (by rw [show B = _ from ha]; rfl))]; exact hc⟩⟩
theorem sti_ref {T : Tbl} (hw : wfB T = true) {out hs all : List Int} {x most : Int} (h : StI T out hs all) (hsc : ∀ c ∈ hs, scalarB c = true) (hx : scalarB x = true) (hl : hs.length ≤ 200) (h1 : 1 ≤ most) (_ : (hs.length : Int) ≤ most) :
  (pshE T most hs x = 0 ∧ StI T (out ++ pshO T hs x) (pshH T most hs x) (all ++ [x]) ∧ (∀ c ∈ pshH T most hs x, scalarB c = true) ∧ ((pshH T most hs x).length : Int) ≤ most) ∨ (pshE T most hs x = 7 ∧ pshO T hs x = [] ∧ pshH T most hs x = hs) := by
 have hf : scalarB x ≠ false := by rw [hx]; simp
 cases hb : bndB T x
 ·by_cases hlt : most ≤ (hs.length : Int)
  ·exact .inr ⟨by rw [pshE, if_neg hf, hb, if_neg (by simp), if_pos hlt], by rw [pshO, hb]; rfl, by rw [pshH, if_neg hf, hb, if_neg (by simp), if_pos hlt]⟩
  ·obtain ⟨q1, q2, q3, q4⟩ := sti_push (most := most) hw h hsc hx hl (by omega)
   exact .inl ⟨q1, q2, q3, by omega⟩
 ·have hz := nfd_ok hw hsc hl
  have e2 : pshH T most hs x = [x] := by rw [pshH, if_neg hf, hb, if_pos rfl]
  have e1 : pshO T hs x = nfcT T hs := by rw [pshO, hb, if_pos rfl, nfcRes_ok hz]
  refine .inl ⟨by rw [pshE, if_neg hf, hb, if_pos rfl], by rw [e1, e2]; exact sti_bnd h hb, fun c hc => ?_, by rw [e2]; simpa using h1⟩
  rw [e2, List.mem_singleton] at hc; rw [hc]; exact hx
structure StR (M : List Nat) (w1 w : World) (g : Nat) (t : TV) (T : Tbl) (most : Int) (H : Option Addr) (hn hc : Nat) (hs : List Int) (A : Option Addr) (c : Nat) (out : List Int) (K : Option Addr) (kc : Nat) (kept : List Int) : Prop where
 so : StO M w1 w g t T most H hn hc hs A c out
 own2 : OwnI w w1.heap.size K kept.length kc kept
 dis2 : ∀ b, blkOf K = some b → blkOf H ≠ some b
 dis3 : ∀ b, blkOf K = some b → blkOf A ≠ some b
section
variable {M : List Nat} {w1 w w' : World} {g : Nat} {t : TV} {T : Tbl} {most : Int} {H H' : Option Addr} {hn hc hn' hc' : Nat} {hs hs' : List Int} {A : Option Addr} {c : Nat} {out : List Int} {K : Option Addr} {kc : Nat} {kept : List Int}
theorem StR.push (h : StR M w1 w g t T most H hn hc hs A c out K kc kept) (h' : StrS M w1 w' g t T most H' hn' hc' hs') (hk : StrK g H H' w w') : StR M w1 w' g t T most H' hn' hc' hs' A c out K kc kept := by
 refine ⟨h.so.push h' hk, h.own2.kp hk.kp (fun b hb hm => ?_), fun b hb hb' => ?_, h.dis3⟩
 ·rcases List.mem_cons.1 hm with rfl | hm
  ·have := (h.own2.lt _ hb).1; have := h.so.st.lt; omega
  ·rw [Option.mem_toList] at hm; exact h.dis2 b hb hm
 ·rcases hk.at_ b hb' with h1 | h1
  ·exact h.dis2 b hb h1
  ·have := (h.own2.lt _ hb).2; omega
theorem StR.app (h : StR M w1 w g t T most H hn hc hs A c out K kc kept) {A' : Option Addr} {n' c' : Nat} {out' : List Int} (hown : OwnI w' w1.heap.size A' n' c' out') (hgr : w.grownBy w' (blkOf A)) (hat : blkOf A' = blkOf A ∨ blkOf A' = some w.heap.size) : StR M w1 w' g t T most H hn hc hs A' c' out' K kc kept := by
 refine ⟨h.so.app hown hgr hat, h.own2.kp (M := (blkOf A).toList) (Kp.ofGrown hgr (fun b hb => by rw [hb]; simp)) (fun b hb hb' => by rw [Option.mem_toList] at hb'; exact h.dis3 b hb hb'), h.dis2, fun b hb hb' => ?_⟩
 rcases hat with hat | hat
 ·exact h.dis3 b hb (by rw [← hat]; exact hb')
 ·rw [hat] at hb'; injection hb' with hb'; have := (h.own2.lt b hb).2; omega
theorem StR.take (h : StR M w1 w g t T most H hn hc hs A c out K kc kept) {K' : Option Addr} {n' c' : Nat} {kept' : List Int} (hown : OwnI w' w1.heap.size K' n' c' kept') (hgr : w.grownBy w' (blkOf K)) (hat : blkOf K' = blkOf K ∨ blkOf K' = some w.heap.size) : StR M w1 w' g t T most H hn hc hs A c out K' c' kept' := by
 have hl := hown.len
 simp only [List.length_map, Nat.mul_one] at hl
 subst hl
 have hk : Kp (blkOf K).toList w w' := Kp.ofGrown hgr (fun b hb => by rw [hb]; simp)
 refine ⟨⟨h.so.st.kept hk (fun b hb => by rw [Option.mem_toList] at hb; exact .inr (h.own2.lt b hb).1) (fun hb => by rw [Option.mem_toList] at hb; have := (h.own2.lt g hb).1; have := h.so.st.lt; omega) (fun b hb hb' => by rw [Option.mem_toList] at hb'; exact h.dis2 b hb' hb), h.so.own.kp hk (fun b hb hb' => by rw [Option.mem_toList] at hb'; exact h.dis3 b hb' hb), h.so.dis⟩, hown, fun b hb hb' => ?_, fun b hb hb' => ?_⟩
 ·rcases hat with hat | hat
  ·exact h.dis2 b (by rw [← hat]; exact hb) hb'
  ·rw [hat] at hb; injection hb with hb; have := (h.so.st.own.lt b hb').2; omega
 ·rcases hat with hat | hat
  ·exact h.dis3 b (by rw [← hat]; exact hb) hb'
  ·rw [hat] at hb; injection hb with hb; have := (h.so.own.lt b hb').2; omega
theorem StR.ext_ (h : StR M w1 w g t T most H hn hc hs A c out K kc kept) (hx : Ext w w') : StR M w1 w' g t T most H hn hc hs A c out K kc kept := ⟨h.so.ext_ hx, Own.ext h.own2 hx, h.dis2, h.dis3⟩
end
def ReLoop (T : Tbl) (t' : TV) (g : Nat) (q : Int) (w4 : World) (L : List Int) (gh : Nat) (s11 s12 s39 : Value) (wx : World) : Prop :=
 ∃ (k : Nat) (A : Option Addr) (c : Nat) (out : List Int) (K : Option Addr) (kc : Nat) (kept : List Int) (H : Option Addr) (hn hc : Nat) (hs : List Int), k + gh = L.length ∧ s39 = .int .i64 k ∧ s11 = .slice A out.length c ∧ s12 = .slice K kept.length kc ∧
  Hid (StR [g] w4 wx g t' T q H hn hc hs A c out K kc kept) ∧ Hid (StI T out hs kept) ∧ Hid ((hs.length : Int) ≤ q) ∧ Hid (∀ x ∈ hs, scalarB x = true) ∧ kept.length ≤ k ∧ Hid (∀ x ∈ kept, scalarB x = true)
set_option maxHeartbeats 6400000 in
set_option maxRecDepth 100000 in
theorem streamRefused_spec (l m : List Int) (most : Int) (Al : Option Addr) (nl cl : Nat) (Am : Option Addr) (nm cm : Nat) (w : World) (hl : IntS w ⟨Al, nl, cl⟩ l) (hm : IntS w ⟨Am, nm, cm⟩ m) (hg : Glob w) :
  Calls Tryz.prog 7 #[.slice Al nl cl, .slice Am nm cm, .int .i64 most] w fun e w' => e = .returned (.bool true) ∧ Ext w w' := by
 have HG := Lib.hid hg
 have Hl := Lib.hid hl
 have Hm := Lib.hid hm
 clear hg hl hm
 go_enter Tryz.func7, Tryz.ntmps7
 go_wp2_with fail
 refine Calls.mono (tables_spec l Al nl cl w Hl.out HG.out) ?_
 rintro e w1 ⟨t, rfl, ht, hb1⟩
 have hx1 := tw_ext w1 t
 obtain ⟨w2, hw2⟩ : ∃ w2, w2 = (w1.alloc (.cells #[.slice t.s0.a t.s0.n t.s0.c, .slice t.s1.a t.s1.n t.s1.c, .slice t.s2.a t.s2.n t.s2.c, .slice t.s3.a t.s3.n t.s3.c, .slice t.s4.a t.s4.n t.s4.c, .slice t.s5.a t.s5.n t.s5.c, .slice t.s6.a t.s6.n t.s6.c, .slice t.s7.a t.s7.n t.s7.c, .slice t.s8.a t.s8.n t.s8.c, .slice t.s9.a t.s9.n t.s9.c, .slice t.s10.a t.s10.n t.s10.c, .slice t.s11.a t.s11.n t.s11.c] 26)) := ⟨_, rfl⟩
 have HT := Lib.hid (ht.ext_ hx1)
 have HB2 := Lib.hid (hb1.trans' hx1)
 have HRT : Hid (∀ w', Ext w2 w' → ∀ k : Nat, w'.cell? ⟨w1.heap.size, k, none⟩ = t.v.cells[k]?) := Lib.hid (fun w' h => by rw [hw2] at h; exact box_at h)
 rw [← hw2] at HT HB2
 have HW := Lib.hid (made_wf l)
 clear ht hb1 hx1
 have hp := pickV_bd most (n := 3) (by decide)
 have HPK : Hid (∀ w' : World, Calls Tryz.prog 15 #[.int .i64 most, .int .i64 3] w' fun e w'' => e = .returned (.int .i64 (pickV most 3)) ∧ w' = w'') := Lib.hid (fun w' => kpick_spec most 3 (by decide) (by decide) w')
 generalize pickV most 3 = p at *
 obtain ⟨q, hq⟩ : ∃ q, 1 + p = q := ⟨_, rfl⟩
 go_wp2_with fail
 rw [← hw2]
 clear hw2
 refine region_x [([0, 1], 2), ([3], 4)] [5, 6, 7, 8, 9] (by kernel_rfl) (by kernel_rfl) ?_
 refine segW_cons (by repeat (first | exact OpsAre.nil | exact OpAt.zero | apply OpAt.succ | apply OpsAre.cons)) (by repeat (first | exact OpAt.zero | apply OpAt.succ)) ?_
 have rT : ∀ yy : ExtW w2.drew, ∀ k : Nat, yy.w.cell? ⟨w1.heap.size, k, none⟩ = t.v.cells[k]? := fun yy => HRT.out _ ((Ext.refl w2).drew_.trans' yy.h)
 repeat (go_big_quiet_step (fail))
 refine wpQuiet_nil ?_
 clear rT
 go_wp2_with fail
 refine (HPK.out _).mono ?_
 rintro e w' ⟨rfl, rfl⟩
 go_wp2_with fail
 refine segK_mk (Ext.refl _) ?_
 refine segW_cons (by repeat (first | exact OpsAre.nil | exact OpAt.zero | apply OpAt.succ | apply OpsAre.cons)) (by repeat (first | exact OpAt.zero | apply OpAt.succ)) ?_
 repeat (go_big_quiet_step (fail))
 refine wpQuiet_nil ?_
 go_wp2_with fail
 have HD2 : Hid (Ext w2 w2.drew) := Lib.hid (Ext.refl w2).drew_
 refine (new_spec [] t (madeT l) q w2.drew (HT.out.ext_ HD2.out) (by simp) (glob0 (HG.out.ext (HB2.out.trans' HD2.out)))).mono ?_
 rintro e w3 ⟨p3, rfl, hb3, _, hn⟩
 rw [newE_ok HW.out (by omega) (by omega)]
 go_wp2_with fail
 refine segK_mk hb3 ?_
 refine segW_nil (by repeat (first | exact OpsAre.nil | exact OpAt.zero | apply OpAt.succ | apply OpsAre.cons)) ?_
 repeat (go_big_quiet_step (fail))
 refine wpQuiet_nil ?_
 obtain ⟨t', g, rfl, hg2, _, hS⟩ := hn (newE_ok HW.out (by omega) (by omega))
 have HS3 := Lib.hid hS
 have HB3 := Lib.hid (HD2.out.trans' hb3)
 have HZG := Lib.hid hg2
 clear hb3 hn hS hg2
 go_wp2_with fail
 refine (dense9_own m Am nm cm w3 (Hm.out.ext (HB2.out.trans' HB3.out))).mono ?_
 rintro e w4 ⟨Ba, ma, da, rfl, ho4, hb4⟩
 have HO4 := Lib.hid ho4
 have HS4 := Lib.hid (HS3.out.rebase hb4 (fun _ h => h) (fun _ h => .inl h))
 have HGL : Hid (g < w3.heap.size) := Lib.hid HS3.out.gw
 have HB4 := Lib.hid (HB3.out.trans' hb4)
 have HSC := Lib.hid (dens9_scal m)
 have HLL := Lib.hid (dens9_len m)
 have hm4 := (OwnI.ints ho4).len.1
 subst hm4
 generalize dens9 m = L at *
 generalize madeT l = T at *
 clear ho4 hb4 HS3 HB3
 go_wp2_with fail
 go_loopg [11, 12, 39] L.length (fun gh s11 s12 s39 wx => ReLoop T t' g q w4 L gh s11 s12 s39 wx)
 case atStart => exact ⟨0, none, 0, [], none, 0, [], none, 0, 0, [], by omega, rfl, rfl, rfl, Lib.hid ⟨⟨HS4.out, Own.nil_ _ _ _ _, fun b hb => by cases hb⟩, Own.nil_ _ _ _ _, fun b hb => by (cases hb), fun b hb => by (cases hb)⟩, Lib.hid (sti_nil T), Lib.hid (by simp; omega), Lib.hid (fun x hx => by cases hx), by simp, Lib.hid (fun x hx => by cases hx)⟩
 case round =>
  obtain ⟨k, A, c, out, K, kc, kept, H, hn, hc, hs, hkg, rfl, rfl, rfl, HST, HI, HHL, HHS, hkl, HKS⟩ := hrel
  have HIN : Hid (IntS wr ⟨Ba, L.length, da⟩ L) := Lib.hid (OwnI.ints (HO4.out.kp HST.out.so.st.kp (fun b hb hm => by
   rw [List.mem_singleton] at hm
   subst hm
   have := (HO4.out.lt _ hb).1
   have := HGL.out
   omega)))
  have hll := HLL.out
  by_cases hlt : k < L.length
  ·obtain ⟨gk', rfl⟩ : ∃ g', gk = g' + 1 := ⟨gk - 1, by omega⟩
   obtain ⟨b, o, hA, hcx⟩ := HIN.out.at_ hlt
   have HX := Lib.hid (HSC.out _ (List.getElem_mem hlt))
   subst hA
   generalize L[k] = x at *
   have hk0 : (0 : Int) ≤ (k : Int) := Int.natCast_nonneg _
   have hk1 : (k : Int) < (L.length : Int) := by omega
   have hqq : q ≤ 3 := by omega
   have HOL := Lib.hid (sti_len HW.out HI.out)
   rcases sti_ref (most := q) HW.out HI.out HHS.out HX.out (by have := HHL.out; omega) (by omega) HHL.out with ⟨q1, q2, q3, q4⟩ | ⟨q1, q2, q3⟩
   ·have HQ1 := Lib.hid q1
    have HQ2 := Lib.hid q2
    have HQ3 := Lib.hid q3
    have HQ4 := Lib.hid q4
    have HOL2 := Lib.hid (sti_len HW.out q2)
    clear q1 q2 q3 q4
    go_wp2_with fail
    refine (push_own HST.out.so.st (by have := HHL.out; omega) x).mono ?_
    rintro e w5 ⟨B5, m5, d5, H5, hn5, hc5, rfl, hi5, hS5, hk5, _, hf5⟩
    rw [HQ1.out]
    have hd : decide (q < ((pshH T q hs x).length : Int)) = false := decide_eq_false (by have := HQ4.out; omega)
    have hT5 := HST.out.push hS5 hk5
    have hm5 := hi5.len.1
    have hx5 : Ext w5 (w5.alloc (.cells #[.int .i64 x] 3)) := (Ext.refl _).alloc_ _
    have hT5x := hT5.ext_ hx5
    obtain ⟨K6, kc6, w6, hrun, hown6, hgr6, hat6⟩ := append_ints hT5x.own2 (one_int w5 x) (by omega) hT5x.so.st.kp.size
    have hT6 := hT5x.take hown6 hgr6 hat6
    have hi6 : IntS w6 ⟨B5, m5, d5⟩ (pshO T hs x) := ints_kp (M := (blkOf K).toList) (hi5.ext hx5) (Kp.ofGrown hgr6 (fun b hb => by rw [hb]; simp)) (fun b hb hb' => by
     rw [Option.mem_toList] at hb'
     have h1 := hf5 b hb
     have h2 := (HST.out.own2.lt b hb').2
     omega)
    obtain ⟨A7, c7, w7, hrun7, hown7, hgr7, hat7⟩ := append_ints hT6.so.own hi6 (by have h1 := HOL2.out; simp at h1; omega) hT6.so.st.kp.size
    have HT7 := Lib.hid (hT6.app hown7 hgr7 hat7)
    have HS6 := Lib.hid hT6.so.st
    have hle : out.length + m5 = (out ++ pshO T hs x).length := by rw [List.length_append, hm5]
    have hle2 : kept.length + 1 = (kept ++ [x]).length := by simp
    rw [hle] at hrun7
    rw [hle2] at hrun
    clear hi5 hS5 hk5 hT5 hT5x hown6 hgr6 hat6 hT6 hi6 hown7 hgr7 hat7 hm5 hle hle2 hf5 hcx
    go_wp2_with (first
     | (at_builtin; refine wpList_run_append rfl _ _ _ rfl _ _ rfl rfl _ _ hrun ?_)
     | (go_at_call 30; refine (held_spec HS6.out).mono ?_; rintro e w' ⟨rfl, rfl⟩)
     | (go_at_call 15; refine (HPK.out _).mono ?_; rintro e w' ⟨rfl, rfl⟩)
     | (at_builtin; refine wpList_run_append rfl _ _ _ rfl _ _ rfl rfl _ _ hrun7 ?_))
    go_roundg gk'
    case measure => omega
    case rel => exact ⟨k + 1, A7, c7, out ++ pshO T hs x, K6, kc6, kept ++ [x], H5, hn5, hc5, pshH T q hs x, by omega, by go_num, by simp, by simp, HT7, HQ2, HQ4, HQ3, by simp; omega, Lib.hid (fun y hy => by
     rcases List.mem_append.1 hy with hy | hy
     ·exact HKS.out y hy
     ·rw [List.mem_singleton] at hy; rw [hy]; exact HX.out)⟩
   ·have HQ1 := Lib.hid q1
    have HQ2 := Lib.hid q2
    have HQ3 := Lib.hid q3
    clear q1 q2 q3
    go_wp2_with fail
    refine (push_own HST.out.so.st (by have := HHL.out; omega) x).mono ?_
    rintro e w5 ⟨B5, m5, d5, H5, hn5, hc5, rfl, hi5, hS5, hk5, _, hf5⟩
    rw [HQ1.out]
    rw [HQ2.out] at hi5
    rw [HQ3.out] at hS5
    have hd : decide (q < (hs.length : Int)) = false := decide_eq_false (by have := HHL.out; omega)
    have hT5 := HST.out.push hS5 hk5
    obtain rfl : m5 = 0 := hi5.len.1
    obtain ⟨A7, c7, w7, hrun7, hown7, hgr7, hat7⟩ := append_ints hT5.so.own hi5 (by have := HOL.out; omega) hT5.so.st.kp.size
    have HT7 := Lib.hid (hT5.app hown7 hgr7 hat7)
    have HS5 := Lib.hid hT5.so.st
    simp only [Nat.add_zero, List.append_nil] at hrun7 HT7
    clear hi5 hS5 hk5 hT5 hown7 hgr7 hat7 hf5 hcx
    go_wp2_with (first
     | (go_at_call 30; refine (held_spec HS5.out).mono ?_; rintro e w' ⟨rfl, rfl⟩)
     | (go_at_call 15; refine (HPK.out _).mono ?_; rintro e w' ⟨rfl, rfl⟩)
     | (at_builtin; refine wpList_run_append rfl _ _ _ rfl _ _ rfl rfl _ _ hrun7 ?_))
    go_roundg gk'
    case measure => omega
    case rel => exact ⟨k + 1, A7, c7, out, K, kc, kept, H5, hn5, hc5, hs, by omega, by go_num, rfl, rfl, HT7, HI, HHL, HHS, by omega, HKS⟩
  ·obtain rfl : k = L.length := by omega
   have HIE : Hid (out ++ nfcT T hs = nfcT T kept) := Lib.hid (sti_end HI.out)
   have hqq : q ≤ 3 := by omega
   have HZ := Lib.hid (nfd_ok HW.out HHS.out (by have := HHL.out; omega))
   have HZL := Lib.hid (nfd_ok HW.out HKS.out (by omega))
   have HNL : Hid ((nfcT T kept).length ≤ 18 * kept.length) := Lib.hid (by
    have h1 : (nfcT T kept).length ≤ (nfdT T kept).length := nfc_len kept
    have h2 := nfd_len HW.out kept
    omega)
   go_wp2_with fail
   refine (end_spec HST.out.so.st).mono ?_
   rintro e w5 ⟨B5, m5, d5, rfl, hi5, hS5, _, hk5⟩
   rw [nfcRes_ok HZ.out] at hi5
   have hT5 := HST.out.push hS5 ⟨hk5.mono (fun b hb => .inl (by rw [List.mem_singleton] at hb; simp [hb])), fun b hb => by cases hb⟩
   have hm5 := hi5.len.1
   obtain ⟨A6, c6, w6, hrun, hown6, hgr6, hat6⟩ := append_ints hT5.so.own hi5 (by have h1 := HIE.out; have h2 := HNL.out; rw [← h1, List.length_append] at h2; omega) hT5.so.st.kp.size
   have HT6 := Lib.hid (hT5.app hown6 hgr6 hat6)
   have hle : out.length + m5 = (nfcT T kept).length := by rw [← HIE.out, List.length_append, hm5]
   rw [hle] at hrun
   rw [HIE.out] at HT6
   have HX6 : Hid (Ext w2 w6) := Lib.hid (HB4.out.kp HT6.out.so.st.kp (fun b hb => by rw [List.mem_singleton] at hb; subst hb; exact HZG.out))
   have HIK6 := Lib.hid (OwnI.ints HT6.out.own2)
   have HIO6 := Lib.hid (OwnI.ints HT6.out.so.own)
   have rT6 := HRT.out w6 HX6.out
   clear hi5 hS5 hk5 hT5 hown6 hgr6 hat6 hm5 hle HIN
   go_wp2_with (at_builtin; refine wpList_run_append rfl _ _ _ rfl _ _ rfl rfl _ _ hrun ?_)
   refine (rnfc_spec T t kept K _ kc w6 (HT.out.ext_ HX6.out) HIK6.out).mono ?_
   rintro e w7 ⟨B7, m7, d7, rfl, hb7, hi7⟩
   rw [nfcRes_ok HZL.out] at hi7
   rw [HZL.out]
   have hm7 := hi7.len.1
   subst hm7
   have HX7 := Lib.hid (HX6.out.trans' hb7)
   have HIO7 := Lib.hid (HIO6.out.ext hb7)
   have HI7 := Lib.hid hi7
   clear hb7 hi7 rT6
   go_wp2_with (first
    | (go_at_call 27; refine (awake9_spec w7 (HG.out.ext (HB2.out.trans' HX7.out))).mono ?_; rintro e w8 ⟨rfl, hb8⟩; have HX8 := Lib.hid (HX7.out.trans' hb8); have HIO8 := Lib.hid (HIO7.out.ext hb8); have HI8 := Lib.hid (HI7.out.ext hb8); clear hb8)
    | (go_at_call 20; refine (same_spec _ _ A6 _ c6 B7 _ d7 _ HIO8.out HI8.out).mono ?_; rintro e w9 ⟨rfl, hb9⟩; rw [(sameB_eq _ _).2 rfl]; have hb := HB2.out.trans' (HX8.out.trans' hb9)))
   go_ret
   exact ⟨rfl, hb⟩
end Go.Proofs.YtbdabjhankgcmaaGreatDoor
