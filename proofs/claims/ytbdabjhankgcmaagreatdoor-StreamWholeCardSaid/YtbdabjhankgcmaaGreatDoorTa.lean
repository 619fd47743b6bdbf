/- Walk: namedesklaw9.StreamWhole. -/
import Derived.Test.YtbdabjhankgcmaaGreatDoorTz
namespace Go.Proofs.YtbdabjhankgcmaaGreatDoor
open Go.RowKit
def WhLoop (T : Tbl) (t' : TV) (g : Nat) (w4 : World) (L : List Int) (gh : Nat) (s9 s33 : Value) (wx : World) : Prop :=
 ∃ (k : Nat) (A : Option Addr) (c : Nat) (out : List Int) (H : Option Addr) (hn hc : Nat) (hs : List Int), k + gh = L.length ∧ s33 = .int .i64 k ∧ s9 = .slice A out.length c ∧ Hid (StO [g] w4 wx g t' T 32 H hn hc hs A c out) ∧ Hid (StI T out hs (L.take k)) ∧
  Hid (hs.length ≤ k) ∧ Hid (∀ x ∈ hs, scalarB x = true)
set_option maxHeartbeats 6400000 in
set_option maxRecDepth 100000 in
theorem streamWhole_spec (l m : List Int) (Al : Option Addr) (nl cl : Nat) (Am : Option Addr) (nm cm : Nat) (w : World) (hl : IntS w ⟨Al, nl, cl⟩ l) (hm : IntS w ⟨Am, nm, cm⟩ m) (hg : Glob w) :
  Calls Tryz.prog 6 #[.slice Al nl cl, .slice Am nm cm] w fun e w' => e = .returned (.bool true) ∧ Ext w w' := by
 have HG := Lib.hid hg
 have Hl := Lib.hid hl
 have Hm := Lib.hid hm
 clear hg hl hm
 go_enter Tryz.func6, Tryz.ntmps6
 go_wp2_with fail
 refine Calls.mono (tables_spec l Al nl cl w Hl.out HG.out) ?_
 rintro e w1 ⟨t, rfl, ht, hb1⟩
 have hx1 := tw_ext w1 t
 obtain ⟨w2, hw2⟩ : ∃ w2, w2 = (w1.alloc (.cells #[.slice t.s0.a t.s0.n t.s0.c, .slice t.s1.a t.s1.n t.s1.c, .slice t.s2.a t.s2.n t.s2.c, .slice t.s3.a t.s3.n t.s3.c, .slice t.s4.a t.s4.n t.s4.c, .slice t.s5.a t.s5.n t.s5.c, .slice t.s6.a t.s6.n t.s6.c, .slice t.s7.a t.s7.n t.s7.c, .slice t.s8.a t.s8.n t.s8.c, .slice t.s9.a t.s9.n t.s9.c, .slice t.s10.a t.s10.n t.s10.c, .slice t.s11.a t.s11.n t.s11.c] 26)) := ⟨_, rfl⟩
 have HT := Lib.hid (ht.ext_ hx1)
 have HB2 := Lib.hid (hb1.trans' hx1)
 have HRT : Hid (∀ w', Ext w2 w' → ∀ k : Nat, w'.cell? ⟨w1.heap.size, k, none⟩ = t.v.cells[k]?) := Lib.hid (fun w' h => by rw [hw2] at h; exact box_at h)
 rw [← hw2] at HT HB2
 have HW := Lib.hid (made_wf l)
 clear ht hb1 hx1
 go_wp2_with fail
 rw [← hw2]
 clear hw2
 refine (new_spec [] t (madeT l) 32 w2 HT.out (by simp) (glob0 (HG.out.ext HB2.out))).mono ?_
 rintro e w3 ⟨p, rfl, hb3, _, hn⟩
 rw [newE_ok HW.out (by decide) (by decide)]
 obtain ⟨t', g, rfl, hg2, _, hS⟩ := hn (newE_ok HW.out (by decide) (by decide))
 have HS3 := Lib.hid hS
 have HB3 := Lib.hid hb3
 have HZG := Lib.hid hg2
 clear hb3 hn hS hg2
 go_wp2_with fail
 refine (dense9_own m Am nm cm w3 (Hm.out.ext (HB2.out.trans' HB3.out))).mono ?_
 rintro e w4 ⟨Ba, ma, da, rfl, ho4, hb4⟩
 have HO4 := Lib.hid ho4
 have HS4 := Lib.hid (HS3.out.rebase hb4 (fun _ h => h) (fun _ h => .inl h))
 have HGL : Hid (g < w3.heap.size) := Lib.hid HS3.out.gw
 have HB4 := Lib.hid (HB3.out.trans' hb4)
 have HSC := Lib.hid (dens9_scal m)
 have HLL := Lib.hid (dens9_len m)
 have hm4 := (OwnI.ints ho4).len.1
 subst hm4
 generalize dens9 m = L at *
 generalize madeT l = T at *
 clear ho4 hb4 HS3 HB3
 go_wp2_with fail
 go_loopg [9, 33] L.length (fun gh s9 s33 wx => WhLoop T t' g w4 L gh s9 s33 wx)
 case atStart => exact ⟨0, none, 0, [], none, 0, 0, [], by omega, rfl, rfl, Lib.hid ⟨HS4.out, Own.nil_ _ _ _ _, fun b hb => by cases hb⟩, Lib.hid (sti_nil T), Lib.hid (Nat.le_refl _), Lib.hid (fun x hx => by cases hx)⟩
 case round =>
  obtain ⟨k, A, c, out, H, hn, hc, hs, hkg, rfl, rfl, HST, HI, HHL, HHS⟩ := hrel
  have HIN : Hid (IntS wr ⟨Ba, L.length, da⟩ L) := Lib.hid (OwnI.ints (HO4.out.kp HST.out.st.kp (fun b hb hm => by
   rw [List.mem_singleton] at hm
   subst hm
   have := (HO4.out.lt _ hb).1
   have := HGL.out
   omega)))
  have hll := HLL.out
  by_cases hlt : k < L.length
  ·obtain ⟨gk', rfl⟩ : ∃ g', gk = g' + 1 := ⟨gk - 1, by omega⟩
   obtain ⟨b, o, hA, hcx⟩ := HIN.out.at_ hlt
   have HTK : Hid (L.take (k + 1) = L.take k ++ [L[k]]) := Lib.hid (List.take_succ_eq_append_getElem hlt)
   have HX := Lib.hid (HSC.out _ (List.getElem_mem hlt))
   subst hA
   generalize L[k] = x at *
   have hk0 : (0 : Int) ≤ (k : Int) := Int.natCast_nonneg _
   have hk1 : (k : Int) < (L.length : Int) := by omega
   have hhl := HHL.out
   obtain ⟨q1, q2, q3, q4⟩ := sti_push (most := 32) HW.out HI.out HHS.out HX.out (by omega) (by omega)
   have HQ1 := Lib.hid q1
   have HQ2 := Lib.hid q2
   have HQ3 := Lib.hid q3
   have HQ4 := Lib.hid q4
   have HOL := Lib.hid (sti_len HW.out HI.out)
   have HOL2 := Lib.hid (sti_len HW.out q2)
   clear q1 q2 q3 q4
   go_wp2_with fail
   refine (push_spec HST.out.st (by omega) x).mono ?_
   rintro e w5 ⟨B5, m5, d5, H5, hn5, hc5, rfl, hi5, hS5, hk5, _⟩
   rw [HQ1.out]
   have hT5 := HST.out.push hS5 hk5
   have hm5 := hi5.len.1
   obtain ⟨A6, c6, w6, hrun, hown6, hgr6, hat6⟩ := append_ints hT5.own hi5 (by have h1 := HOL2.out; simp at h1; omega) hT5.st.kp.size
   have HT6 := Lib.hid (hT5.app hown6 hgr6 hat6)
   have hle : out.length + m5 = (out ++ pshO T hs x).length := by rw [List.length_append, hm5]
   rw [hle] at hrun
   clear hi5 hS5 hk5 hT5 hown6 hgr6 hat6 hcx hm5
   go_wp2_with (at_builtin; refine wpList_run_append rfl _ _ _ rfl _ _ rfl rfl _ _ hrun ?_)
   go_roundg gk'
   case measure => omega
   case rel => exact ⟨k + 1, A6, c6, out ++ pshO T hs x, H5, hn5, hc5, pshH T 32 hs x, by omega, by go_num, by simp, HT6, Lib.hid (by rw [HTK.out]; exact HQ2.out), Lib.hid (by have := HQ4.out; have := HHL.out; omega), HQ3⟩
  ·obtain rfl : k = L.length := by omega
   have HIE : Hid (out ++ nfcT T hs = nfcT T L) := Lib.hid (by have h := sti_end HI.out; rwa [List.take_length] at h)
   have HZ := Lib.hid (nfd_ok HW.out HHS.out (by have := HHL.out; omega))
   have HZL := Lib.hid (nfd_ok HW.out HSC.out (by omega))
   have HNL : Hid ((nfcT T L).length ≤ 18 * L.length) := Lib.hid (by
    have h1 : (nfcT T L).length ≤ (nfdT T L).length := nfc_len L
    have h2 := nfd_len HW.out L
    omega)
   go_wp2_with fail
   refine (end_spec HST.out.st).mono ?_
   rintro e w5 ⟨B5, m5, d5, rfl, hi5, hS5, _, hk5⟩
   rw [nfcRes_ok HZ.out] at hi5
   have hT5 := HST.out.push hS5 ⟨hk5.mono (fun b hb => .inl (by rw [List.mem_singleton] at hb; simp [hb])), fun b hb => by cases hb⟩
   have hm5 := hi5.len.1
   obtain ⟨A6, c6, w6, hrun, hown6, hgr6, hat6⟩ := append_ints hT5.own hi5 (by have h1 := HIE.out; have h2 := HNL.out; rw [← h1, List.length_append] at h2; omega) hT5.st.kp.size
   have HT6 := Lib.hid (hT5.app hown6 hgr6 hat6)
   have hle : out.length + m5 = (nfcT T L).length := by rw [← HIE.out, List.length_append, hm5]
   rw [hle] at hrun
   rw [HIE.out] at HT6
   have HX6 : Hid (Ext w2 w6) := Lib.hid (HB4.out.kp HT6.out.st.kp (fun b hb => by rw [List.mem_singleton] at hb; subst hb; exact HZG.out))
   have HIN6 : Hid (IntS w6 ⟨Ba, L.length, da⟩ L) := Lib.hid (OwnI.ints (HO4.out.kp HT6.out.st.kp (fun b hb hm => by
    rw [List.mem_singleton] at hm
    subst hm
    have := (HO4.out.lt _ hb).1
    have := HGL.out
    omega)))
   have HIO6 := Lib.hid (OwnI.ints HT6.out.own)
   have rT6 := HRT.out w6 HX6.out
   clear hi5 hS5 hk5 hT5 hown6 hgr6 hat6 hm5 hle HIN
   go_wp2_with (at_builtin; refine wpList_run_append rfl _ _ _ rfl _ _ rfl rfl _ _ hrun ?_)
   refine (rnfc_spec T t L Ba _ da w6 (HT.out.ext_ HX6.out) HIN6.out).mono ?_
   rintro e w7 ⟨B7, m7, d7, rfl, hb7, hi7⟩
   rw [nfcRes_ok HZL.out] at hi7
   rw [HZL.out]
   have hm7 := hi7.len.1
   subst hm7
   have HX7 := Lib.hid (HX6.out.trans' hb7)
   have HIO7 := Lib.hid (HIO6.out.ext hb7)
   have HI7 := Lib.hid hi7
   clear hb7 hi7 rT6
   go_wp2_with (first
    | (go_at_call 27; refine (awake9_spec w7 (HG.out.ext (HB2.out.trans' HX7.out))).mono ?_; rintro e w8 ⟨rfl, hb8⟩; have HX8 := Lib.hid (HX7.out.trans' hb8); have HIO8 := Lib.hid (HIO7.out.ext hb8); have HI8 := Lib.hid (HI7.out.ext hb8); clear hb8)
    | (go_at_call 20; refine (same_spec _ _ A6 _ c6 B7 _ d7 _ HIO8.out HI8.out).mono ?_; rintro e w9 ⟨rfl, hb9⟩; rw [(sameB_eq _ _).2 rfl]; have hb := HB2.out.trans' (HX8.out.trans' hb9)))
   go_ret
   exact ⟨rfl, hb⟩
end Go.Proofs.YtbdabjhankgcmaaGreatDoor
