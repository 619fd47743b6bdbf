/- Walk: namedesklaw9.StreamBoundary. -/
import Derived.Test.YtbdabjhankgcmaaGreatDoorTz
namespace Go.Proofs.YtbdabjhankgcmaaGreatDoor
open Go.RowKit
theorem bints_rest {w : World} {A : Option Addr} {n c k : Nat} {l : List Int} (h : IntS w ⟨A, n, c⟩ l) (hk : k ≤ n) :
  IntS w ⟨if c = k then A else A.map (·.add k), n - k, c - k⟩ (l.drop k) := by
 obtain ⟨h1, h2, h3⟩ := h.len
 refine ⟨⟨by simp; omega, by simp; omega, by simp [maxLen]; omega⟩, fun i x hx => ?_⟩
 have hi : i < n - k := by
  have := (List.getElem?_eq_some_iff.1 hx).1
  simp at this
  omega
 have hki : k + i < l.length := by omega
 obtain ⟨b, o, ha, hc⟩ := h.at_ hki
 subst ha
 rw [if_neg (by omega)]
 refine ⟨b, o + k, ?_, ?_⟩
 ·simp only [Option.map_some, Addr.add_mid]
 ·rw [List.getElem?_drop, List.getElem?_eq_getElem hki] at hx
  injection hx with hx
  rw [← hx, ← hc, Nat.add_assoc]
theorem bints_take {w : World} {A : Option Addr} {n c m : Nat} {l : List Int} (h : IntS w ⟨A, n, c⟩ l) (hm : m ≤ l.length) : IntS w ⟨A, m, c⟩ (l.take m) := by
 obtain ⟨h1, h2, h3⟩ := h.len
 refine ⟨⟨by simp; omega, by simp; omega, h3⟩, fun i x hx => ?_⟩
 have hi : i < m := by have := (List.getElem?_eq_some_iff.1 hx).1; simp at this; omega
 rw [List.getElem?_take_of_lt hi] at hx
 exact h.2 i x hx
theorem wpList_run_append_g {ops : Array Oper} {rest : List Oper} {o : Oper} {a : Act} {w : World} {Q : Exit → Act → World → Prop} (hgd : Region.wanted o (yielded ops a.tmps) = true) (s x : Operand) (t : TypeId)
  (ho : o.op = .call { callee := .builtin .append, args := #[s, x], argTypes := #[t, t] }) (v u : Value) (hs : a.eval s = v) (hx : a.eval x = u) (v' : Value) (w' : World)
  (hrun : ∀ ty, (Builtin.append_ #[t, t] ty #[v, u]).run Tryz.prog w = .ok v' w') (h : wpList Tryz.prog ops Q rest (a.put o.dst v') w') :
  wpList Tryz.prog ops Q (o :: rest) a w := by
 refine wpList_step fun K hK => ?_
 rw [if_pos hgd]
 unfold Oper.wp execOp
 simp only [ho, resolve, invoke, builtin, Sem.run_bind, Sem.run_pure, Result.andThen_ok, List.map_toArray, List.map_cons, List.map_nil, hs, hx, hrun]
 exact hK _ _ h
set_option maxHeartbeats 6400000 in
set_option maxRecDepth 100000 in
theorem streamBoundary_spec (l m : List Int) (at_ : Int) (Al : Option Addr) (nl cl : Nat) (Am : Option Addr) (nm cm : Nat) (w : World) (hl : IntS w ⟨Al, nl, cl⟩ l) (hm : IntS w ⟨Am, nm, cm⟩ m) (hg : Glob w) :
  Calls Tryz.prog 8 #[.slice Al nl cl, .slice Am nm cm, .int .i64 at_] w fun e w' => e = .returned (.bool true) ∧ Ext w w' := by
 have HG := Lib.hid hg
 have Hl := Lib.hid hl
 have Hm := Lib.hid hm
 clear hg hl hm
 go_enter Tryz.func8, Tryz.ntmps8
 go_wp2_with fail
 refine Calls.mono (tables_spec l Al nl cl w Hl.out HG.out) ?_
 rintro e w1 ⟨t, rfl, ht, hb1⟩
 have hx1 := tw_ext w1 t
 obtain ⟨w2, hw2⟩ : ∃ w2, w2 = (w1.alloc (.cells #[.slice t.s0.a t.s0.n t.s0.c, .slice t.s1.a t.s1.n t.s1.c, .slice t.s2.a t.s2.n t.s2.c, .slice t.s3.a t.s3.n t.s3.c, .slice t.s4.a t.s4.n t.s4.c, .slice t.s5.a t.s5.n t.s5.c, .slice t.s6.a t.s6.n t.s6.c, .slice t.s7.a t.s7.n t.s7.c, .slice t.s8.a t.s8.n t.s8.c, .slice t.s9.a t.s9.n t.s9.c, .slice t.s10.a t.s10.n t.s10.c, .slice t.s11.a t.s11.n t.s11.c] 26)) := ⟨_, rfl⟩
 have HT := Lib.hid (ht.ext_ hx1)
 have HB2 := Lib.hid (hb1.trans' hx1)
 have HRT : Hid (∀ w', Ext w2 w' → ∀ k : Nat, w'.cell? ⟨w1.heap.size, k, none⟩ = t.v.cells[k]?) := Lib.hid (fun w' h => by rw [hw2] at h; exact box_at h)
 rw [← hw2] at HT HB2
 have HW := Lib.hid (made_wf l)
 clear ht hb1 hx1
 go_wp2_with fail
 rw [← hw2]
 clear hw2
 refine (dense9_spec m Am nm cm w2 (Hm.out.ext HB2.out)).mono ?_
 rintro e w3 ⟨Ba, ma, da, rfl, hi3, hb3⟩
 have HB3 := Lib.hid hb3
 have HIN := Lib.hid hi3
 have HSC := Lib.hid (dens9_scal m)
 have HLL := Lib.hid (dens9_len m)
 have hda := hi3.len
 have hm3 := hi3.len.1
 subst hm3
 generalize dens9 m = L at *
 generalize madeT l = T at *
 have hll := HLL.out
 clear hi3 hb3
 have HK : Hid (∀ (v : Int) (w : World), Calls Tryz.prog 15 #[.int .i64 v, .int .i64 ((L.length : Int) + 1)] w fun e w' => (∃ k : Nat, k ≤ L.length ∧ e = .returned (.int .i64 (k : Int))) ∧ w = w') := Lib.hid (fun v w => (kpick_spec v ((L.length : Int) + 1) (by omega) (by omega) w).mono fun e w' ⟨he, hw⟩ => by
  have hb := pickV_bd v (n := (L.length : Int) + 1) (by omega)
  exact ⟨⟨(pickV v ((L.length : Int) + 1)).toNat, by omega, by rw [he, Int.toNat_of_nonneg hb.1]⟩, hw⟩)
 go_wp2_with fail
 refine (HK.out _ _).mono ?_
 rintro e w' ⟨⟨k, hk, rfl⟩, rfl⟩
 clear HK
 have hk0 : (0 : Int) ≤ (k : Int) := Int.natCast_nonneg _
 by_cases hkl : k = L.length
 ·subst hkl
  go_wp2_with fail
  refine region_ext (by kernel_rfl) (by kernel_rfl) ?_
  repeat (go_big_quiet_step (fail))
  refine wpQuiet_nil ?_
  rintro _ ⟨yy, rfl⟩
  go_wp2_with (go_at_call 27; refine (awake9_spec _ (HG.out.ext (HB2.out.trans' (HB3.out.trans' yy.h)))).mono ?_; rintro e w9 ⟨rfl, hb9⟩; have hb := HB2.out.trans' ((HB3.out.trans' yy.h).trans' hb9))
  go_ret
  exact ⟨rfl, hb⟩
 ·have hlt : k < L.length := by omega
  obtain ⟨b, o, hA, hcx⟩ := HIN.out.at_ hlt
  subst hA
  have hd : ((k : Int) == (L.length : Int)) = false := by rw [beq_eq_false_iff_ne]; omega
  have hk1 : (k : Int) < (L.length : Int) := by omega
  have hk2 : (k : Int) ≤ (da : Int) := by omega
  have hk3 : (L.length : Int) ≤ (da : Int) := by omega
  have HTK := Lib.hid (bints_take HIN.out (m := k) (by omega))
  have HDR : Hid (IntS w3 ⟨some ⟨b, o + k, none⟩, L.length - k, da - k⟩ (L.drop k)) := Lib.hid (by
   have h := bints_rest HIN.out (k := k) (by omega)
   rw [if_neg (by omega)] at h
   simpa only [Option.map_some, Addr.add_mid] using h)
  have HSPL : Hid (L = L.take k ++ L[k] :: L.drop (k + 1)) := Lib.hid (by rw [← drop_at L k hlt, List.take_append_drop])
  have HDK : Hid (L.drop k = L[k] :: L.drop (k + 1)) := Lib.hid (drop_at L k hlt)
  generalize L[k] = x at *
  have rX : ∀ yy : ExtW w3.drew, yy.w.cell? ⟨b, o + k, none⟩ = some (.int .i64 x) := ext_cell (keep_cell (ext_keep (Ext.refl w3).drew_) hcx)
  have rT : ∀ yy : ExtW w3.drew, ∀ k : Nat, yy.w.cell? ⟨w1.heap.size, k, none⟩ = t.v.cells[k]? := fun yy => HRT.out _ (HB3.out.trans' ((Ext.refl w3).drew_.trans' yy.h))
  have HD3 : Hid (Ext w2 w3.drew) := Lib.hid HB3.out.drew_
  cases hbx : bndB T x
  ·go_wp2_with fail
   refine region_x [([0, 1, 2, 3, 4, 5, 6, 7, 8, 9], 10)] [11, 12] (by kernel_rfl) (by kernel_rfl) ?_
   refine segW_cons (by repeat (first | exact OpsAre.nil | exact OpAt.zero | apply OpAt.succ | apply OpsAre.cons)) (by repeat (first | exact OpAt.zero | apply OpAt.succ)) ?_
   repeat (go_big_quiet_step (fail))
   refine wpQuiet_nil ?_
   clear rT rX hcx
   go_wp2_with fail
   refine (bnd_spec T t x w3.drew (HT.out.ext_ HD3.out)).mono ?_
   rintro e w4 ⟨rfl, hb4⟩
   rw [hbx]
   go_wp2_with fail
   refine segK_mk hb4 ?_
   have HX4 := Lib.hid (HD3.out.trans' hb4)
   clear hb4
   refine segW_nil (by repeat (first | exact OpsAre.nil | exact OpAt.zero | apply OpAt.succ | apply OpsAre.cons)) ?_
   repeat (go_big_quiet_step (fail))
   refine wpQuiet_nil ?_
   go_wp2_with (go_at_call 27; refine (awake9_spec _ (HG.out.ext (HB2.out.trans' HX4.out))).mono ?_; rintro e w9 ⟨rfl, hb9⟩; have hb := HB2.out.trans' (HX4.out.trans' hb9))
   go_ret
   exact ⟨rfl, hb⟩
  ·have HCUT : Hid (nfcT T L = nfcT T (L.take k) ++ nfcT T (L.drop k)) := Lib.hid (by
    have h := nfc_cut hbx (L.take k) (L.drop (k + 1))
    rw [← HSPL.out, ← HDK.out] at h
    exact h)
   have HZA := Lib.hid (nfd_ok HW.out (l := L.take k) (fun c hc => HSC.out c (List.mem_of_mem_take hc)) (by simp; omega))
   have HZB := Lib.hid (nfd_ok HW.out (l := L.drop k) (fun c hc => HSC.out c (List.mem_of_mem_drop hc)) (by simp; omega))
   have HZL := Lib.hid (nfd_ok HW.out HSC.out (by omega))
   have HNL : Hid ((nfcT T (L.take k)).length + (nfcT T (L.drop k)).length ≤ 1000) := Lib.hid (by
    have h1 : (nfcT T L).length ≤ (nfdT T L).length := nfc_len L
    have h2 := nfd_len HW.out L
    rw [HCUT.out, List.length_append] at h1
    omega)
   go_wp2_with fail
   refine region_x [([0, 1, 2, 3, 4, 5, 6, 7, 8, 9], 10)] [11, 12] (by kernel_rfl) (by kernel_rfl) ?_
   refine segW_cons (by repeat (first | exact OpsAre.nil | exact OpAt.zero | apply OpAt.succ | apply OpsAre.cons)) (by repeat (first | exact OpAt.zero | apply OpAt.succ)) ?_
   repeat (go_big_quiet_step (fail))
   refine wpQuiet_nil ?_
   clear rT rX hcx
   go_wp2_with fail
   refine (bnd_spec T t x w3.drew (HT.out.ext_ HD3.out)).mono ?_
   rintro e w4 ⟨rfl, hb4⟩
   rw [hbx]
   go_wp2_with fail
   refine segK_mk hb4 ?_
   have h34 := (Ext.refl w3).drew_.trans' hb4
   have HX4 := Lib.hid (HD3.out.trans' hb4)
   have HIN4 := Lib.hid (HIN.out.ext h34)
   have HTK4 := Lib.hid (HTK.out.ext h34)
   have HDR4 := Lib.hid (HDR.out.ext h34)
   clear hb4 h34
   refine segW_nil (by repeat (first | exact OpsAre.nil | exact OpAt.zero | apply OpAt.succ | apply OpsAre.cons)) ?_
   repeat (go_big_quiet_step (fail))
   refine wpQuiet_nil ?_
   have rT : ∀ yy : ExtW w4.drew, ∀ k : Nat, yy.w.cell? ⟨w1.heap.size, k, none⟩ = t.v.cells[k]? := fun yy => HRT.out _ (HX4.out.trans' ((Ext.refl w4).drew_.trans' yy.h))
   go_wp2_with fail
   refine region_x [([0, 1, 2, 3], 4)] [5, 6, 7, 8, 9] (by kernel_rfl) (by kernel_rfl) ?_
   refine segW_cons (by repeat (first | exact OpsAre.nil | exact OpAt.zero | apply OpAt.succ | apply OpsAre.cons)) (by repeat (first | exact OpAt.zero | apply OpAt.succ)) ?_
   repeat (go_big_quiet_step (fail))
   refine wpQuiet_nil ?_
   clear rT
   have HX4d := Lib.hid HX4.out.drew_
   go_wp2_with fail
   refine (rnfc_spec T t (L.take k) (some ⟨b, o, none⟩) k da w4.drew (HT.out.ext_ HX4d.out) (HTK4.out.ext (Ext.refl w4).drew_)).mono ?_
   rintro e w5 ⟨B5, m5, d5, rfl, hb5, hi5⟩
   rw [nfcRes_ok HZA.out] at hi5
   rw [HZA.out]
   go_wp2_with fail
   refine segK_mk hb5 ?_
   have h45 := (Ext.refl w4).drew_.trans' hb5
   have HX5 := Lib.hid (HX4.out.trans' h45)
   have HIN5 := Lib.hid (HIN4.out.ext h45)
   have HDR5 := Lib.hid (HDR4.out.ext h45)
   have HI5 := Lib.hid hi5
   clear hb5 h45 hi5
   refine segW_nil (by repeat (first | exact OpsAre.nil | exact OpAt.zero | apply OpAt.succ | apply OpsAre.cons)) ?_
   repeat (go_big_quiet_step (fail))
   refine wpQuiet_nil ?_
   have rT : ∀ yy : ExtW w5.drew, ∀ k : Nat, yy.w.cell? ⟨w1.heap.size, k, none⟩ = t.v.cells[k]? := fun yy => HRT.out _ (HX5.out.trans' ((Ext.refl w5).drew_.trans' yy.h))
   go_wp2_with fail
   refine region_x [([0, 1, 2, 3], 4)] [5, 6, 7, 8, 9] (by kernel_rfl) (by kernel_rfl) ?_
   refine segW_cons (by repeat (first | exact OpsAre.nil | exact OpAt.zero | apply OpAt.succ | apply OpsAre.cons)) (by repeat (first | exact OpAt.zero | apply OpAt.succ)) ?_
   repeat (go_big_quiet_step (fail))
   refine wpQuiet_nil ?_
   clear rT
   have HX5d := Lib.hid HX5.out.drew_
   go_wp2_with fail
   refine (rnfc_spec T t (L.drop k) (some ⟨b, o + k, none⟩) (L.length - k) (da - k) w5.drew (HT.out.ext_ HX5d.out) (HDR5.out.ext (Ext.refl w5).drew_)).mono ?_
   rintro e w6 ⟨B6, m6, d6, rfl, hb6, hi6⟩
   rw [nfcRes_ok HZB.out] at hi6
   rw [HZB.out]
   go_wp2_with fail
   refine segK_mk hb6 ?_
   have h56 := (Ext.refl w5).drew_.trans' hb6
   have HX6 := Lib.hid (HX5.out.trans' h56)
   have HIN6 := Lib.hid (HIN5.out.ext h56)
   have HI56 := Lib.hid (HI5.out.ext h56)
   have HI6 := Lib.hid hi6
   clear hb6 h56 hi6
   refine segW_nil (by repeat (first | exact OpsAre.nil | exact OpAt.zero | apply OpAt.succ | apply OpsAre.cons)) ?_
   repeat (go_big_quiet_step (fail))
   refine wpQuiet_nil ?_
   have rT6 := HRT.out w6 HX6.out
   go_wp2_with fail
   refine (rnfc_spec T t L (some ⟨b, o, none⟩) L.length da w6 (HT.out.ext_ HX6.out) HIN6.out).mono ?_
   rintro e w7 ⟨B7, m7, d7, rfl, hb7, hi7⟩
   rw [nfcRes_ok HZL.out] at hi7
   rw [HZL.out]
   clear rT6
   go_wp2_with fail
   refine (awake9_spec w7 (HG.out.ext (HB2.out.trans' (HX6.out.trans' hb7)))).mono ?_
   rintro e w8 ⟨rfl, hb8⟩
   have h68 := hb7.trans' hb8
   have HX8 := Lib.hid (HX6.out.trans' h68)
   have hx8 := HI56.out.ext h68
   have hy8 := HI6.out.ext h68
   have hz8 := hi7.ext hb8
   have hmx := hx8.len.1
   have hmy := hy8.len.1
   obtain ⟨A9, c9, w9, hrun9, hown9, hgr9, _⟩ := append_ints (w := w8) (base := w8.heap.size) (n := 0) (c := 0) (A := none) (l := []) (Own.nil_ w8 w8.heap.size 3 1) hx8 (by have := HNL.out; omega) (Nat.le_refl _)
   simp only [Nat.zero_add, List.nil_append] at hrun9 hown9
   have hx9 : Ext w8 w9 := ext_of_grown (Ext.refl _) hgr9 (fun k hk => by cases hk)
   obtain ⟨A10, c10, w10, hrun10, hown10, hgr10, _⟩ := append_ints hown9 (hy8.ext hx9) (by have := HNL.out; omega) hx9.b.size
   have hx10 : Ext w8 w10 := ext_of_grown hx9 hgr10 (fun k hk => (Own.lt hown9 k hk).1)
   have HI10 := Lib.hid (OwnI.ints hown10)
   have HI7 := Lib.hid (hz8.ext hx10)
   have HX10 := Lib.hid (HX8.out.trans' hx10)
   clear hown9 hown10 hgr9 hgr10 hx8 hy8 hz8 hx9 hx10 h68 hb7 hb8 hi7 hmx hmy
   go_wp2_with (first
    | (at_builtin; refine wpList_run_append_g (by rfl) _ _ _ rfl _ _ rfl rfl _ _ hrun9 ?_)
    | (at_builtin; refine wpList_run_append_g (by rfl) _ _ _ rfl _ _ rfl rfl _ _ hrun10 ?_)
    | (go_at_call 20; refine (same_spec _ _ B7 _ d7 A10 _ c10 _ HI7.out HI10.out).mono ?_; rintro e w11 ⟨rfl, hb11⟩; rw [(sameB_eq _ _).2 HCUT.out]; have hb := HB2.out.trans' (HX10.out.trans' hb11)))
   go_ret
   exact ⟨rfl, hb⟩
end Go.Proofs.YtbdabjhankgcmaaGreatDoor
