/- Walk: namedesklaw9.StreamPush. -/
import Derived.Test.YtbdabjhankgcmaaGreatDoorTz
namespace Go.Proofs.YtbdabjhankgcmaaGreatDoor
open Go.RowKit
structure Str2 (M : List Nat) (w1 w : World) (g g' : Nat) (t t' : TV) (T : Tbl) (q : Int) (H : Option Addr) (hn hc : Nat) (hs : List Int) (H' : Option Addr) (hn' hc' : Nat) (hs' : List Int) : Prop where
 sa : StrS M w1 w g t T q H hn hc hs
 sb : StrS M w1 w g' t' T q H' hn' hc' hs'
 ne : g ≠ g'
 dis : ∀ b, blkOf H = some b → blkOf H' ≠ some b
section
variable {M : List Nat} {w1 w w' : World} {g g' : Nat} {t t' : TV} {T : Tbl} {q : Int} {H H' H2 : Option Addr} {hn hc hn' hc' hn2 hc2 : Nat} {hs hs' hs2 : List Int}
theorem Str2.swap (h : Str2 M w1 w g g' t t' T q H hn hc hs H' hn' hc' hs') : Str2 M w1 w g' g t' t T q H' hn' hc' hs' H hn hc hs := ⟨h.sb, h.sa, h.ne.symm, fun b hb hb' => h.dis b hb' hb⟩
theorem Str2.push (h : Str2 M w1 w g g' t t' T q H hn hc hs H' hn' hc' hs') (h2 : StrS M w1 w' g t T q H2 hn2 hc2 hs2) (hk : StrK g H H2 w w') : Str2 M w1 w' g g' t t' T q H2 hn2 hc2 hs2 H' hn' hc' hs' := by
 refine ⟨h2, h.sb.kept hk.kp (fun b hb => ?_) (fun hm => ?_) (fun b hb hm => ?_), h.ne, fun b hb hb' => ?_⟩
 ·rcases List.mem_cons.1 hb with rfl | hb
  ·exact .inl h.sa.mem
  ·rw [Option.mem_toList] at hb; exact .inr (h.sa.own.lt b hb).1
 ·rcases List.mem_cons.1 hm with e | hm
  ·exact h.ne e.symm
  ·rw [Option.mem_toList] at hm; have := (h.sa.own.lt _ hm).1; have := h.sb.lt; omega
 ·rcases List.mem_cons.1 hm with rfl | hm
  ·have := (h.sb.own.lt _ hb).1; have := h.sa.lt; omega
  ·rw [Option.mem_toList] at hm; exact h.dis b hm hb
 ·rcases hk.at_ b hb with h1 | h1
  ·exact h.dis b h1 hb'
  ·have := (h.sb.own.lt _ hb').2; omega
theorem Str2.ext_ (h : Str2 M w1 w g g' t t' T q H hn hc hs H' hn' hc' hs') (hx : Ext w w') : Str2 M w1 w' g g' t t' T q H hn hc hs H' hn' hc' hs' := ⟨h.sa.ext_ hx, h.sb.ext_ hx, h.ne, h.dis⟩
theorem strk_end (hk : Kp [g] w w') : StrK g H none w w' := ⟨hk.mono (fun b hb => .inl (by rw [List.mem_singleton] at hb; simp [hb])), fun b hb => by cases hb⟩
theorem ints_or {w w' : World} {s : SV} {l : List Int} (h : IntS w s l) (k : l = [] ∨ IK w w') : IntS w' s l := k.elim (fun k => h.none_ k) (fun k => h.ik k)
end
theorem pshH_len (T : Tbl) (q : Int) (hs : List Int) (x : Int) : (pshH T q hs x).length ≤ hs.length + 1 := by
 unfold pshH
 split
 ·omega
 ·split
  ·simp
  ·split
   ·omega
   ·simp
def PuLoop (M : List Nat) (w1 : World) (g g' : Nat) (t t' : TV) (T : Tbl) (q : Int) (L : List Int) (gh : Nat) (s : Value) (wx : World) : Prop :=
 ∃ (k : Nat) (H : Option Addr) (hn hc : Nat) (H' : Option Addr) (hn' hc' : Nat) (hs : List Int), k + gh = L.length ∧ s = .int .i64 k ∧ Hid (Str2 M w1 wx g g' t t' T q H hn hc hs H' hn' hc' hs) ∧ Hid (hs.length ≤ k)
set_option maxHeartbeats 6400000 in
set_option maxRecDepth 100000 in
theorem streamPush_spec (l m : List Int) (most raw : Int) (Al : Option Addr) (nl cl : Nat) (Am : Option Addr) (nm cm : Nat) (w : World) (hl : IntS w ⟨Al, nl, cl⟩ l) (hm : IntS w ⟨Am, nm, cm⟩ m) (hg : Glob w) :
  Calls Tryz.prog 5 #[.slice Al nl cl, .slice Am nm cm, .int .i64 most, .int .i64 raw] w fun e w' => e = .returned (.bool true) ∧ Ext w w' := by
 have HG := Lib.hid hg
 have Hl := Lib.hid hl
 have Hm := Lib.hid hm
 clear hg hl hm
 go_enter Tryz.func5, Tryz.ntmps5
 go_wp2_with fail
 refine Calls.mono (tables_spec l Al nl cl w Hl.out HG.out) ?_
 rintro e w1 ⟨t, rfl, ht, hb1⟩
 have hx1 := tw_ext w1 t
 obtain ⟨w2, hw2⟩ : ∃ w2, w2 = (w1.alloc (.cells #[.slice t.s0.a t.s0.n t.s0.c, .slice t.s1.a t.s1.n t.s1.c, .slice t.s2.a t.s2.n t.s2.c, .slice t.s3.a t.s3.n t.s3.c, .slice t.s4.a t.s4.n t.s4.c, .slice t.s5.a t.s5.n t.s5.c, .slice t.s6.a t.s6.n t.s6.c, .slice t.s7.a t.s7.n t.s7.c, .slice t.s8.a t.s8.n t.s8.c, .slice t.s9.a t.s9.n t.s9.c, .slice t.s10.a t.s10.n t.s10.c, .slice t.s11.a t.s11.n t.s11.c] 26)) := ⟨_, rfl⟩
 have HT := Lib.hid (ht.ext_ hx1)
 have HB2 := Lib.hid (hb1.trans' hx1)
 have HRT : Hid (∀ w', Ext w2 w' → ∀ k : Nat, w'.cell? ⟨w1.heap.size, k, none⟩ = t.v.cells[k]?) := Lib.hid (fun w' h => by rw [hw2] at h; exact box_at h)
 rw [← hw2] at HT HB2
 have HW := Lib.hid (made_wf l)
 clear ht hb1 hx1
 have hp := pickV_bd most (n := 8) (by decide)
 have HPK : Hid (∀ w' : World, Calls Tryz.prog 15 #[.int .i64 most, .int .i64 8] w' fun e w'' => e = .returned (.int .i64 (pickV most 8)) ∧ w' = w'') := Lib.hid (fun w' => kpick_spec most 8 (by decide) (by decide) w')
 have HP9 : Hid (∀ (v : Int) (w' : World), Calls Tryz.prog 15 #[.int .i64 v, .int .i64 9] w' fun e w'' => (∃ b : Int, e = .returned (.int .i64 b)) ∧ w' = w'') := Lib.hid (fun v w' => (kpick_spec v 9 (by decide) (by decide) w').mono fun _ _ ⟨he, hw⟩ => ⟨⟨_, he⟩, hw⟩)
 generalize pickV most 8 = p at *
 obtain ⟨q, hq⟩ : ∃ q, 1 + p = q := ⟨_, rfl⟩
 go_wp2_with fail
 rw [← hw2]
 clear hw2
 refine (HPK.out _).mono ?_
 rintro e w' ⟨rfl, rfl⟩
 have rT2 := HRT.out w2 (Ext.refl _)
 have hq1 : 1 ≤ q := by omega
 have hq2 : q ≤ 32 := by omega
 go_wp2_with fail
 refine (new_spec [] t (madeT l) q w2 HT.out (by simp) (glob0 (HG.out.ext HB2.out))).mono ?_
 rintro e w3 ⟨p3, rfl, hb3, _, hn⟩
 rw [newE_ok HW.out hq1 hq2]
 obtain ⟨ta, ga, rfl, hga, hta, hSa⟩ := hn (newE_ok HW.out hq1 hq2)
 have HSA3 := Lib.hid hSa
 have HTA3 := Lib.hid hta
 have HB3 := Lib.hid hb3
 have HGA := Lib.hid hga
 have rT3 := HRT.out w3 hb3
 clear hb3 hn hSa hga hta rT2
 go_wp2_with fail
 refine (rnew_spec [ga] t (madeT l) q w3 (HT.out.ext_ HB3.out) (HT.out.sub (fun p v hp => hide_on HB3.out (N := []) (M := [ga]) (fun b hb => by rw [List.mem_singleton] at hb; subst hb; exact .inr HGA.out) p v (by rw [hide_nil]; exact hp)))).mono ?_
 rintro e w4 ⟨p4, rfl, hb4, _, hn⟩
 rw [newE_ok HW.out hq1 hq2]
 obtain ⟨tb, gb, rfl, hgb, htb, hSb⟩ := hn (newE_ok HW.out hq1 hq2)
 have HSB4 := Lib.hid hSb
 have HTB4 := Lib.hid htb
 have HSA4 := Lib.hid (HSA3.out.ext_ hb4)
 have HB4 := Lib.hid (HB3.out.trans' hb4)
 have HGB := Lib.hid hgb
 have HGN : Hid (ga ≠ gb) := Lib.hid (by have := HSA3.out.gw; omega)
 have HXB := Lib.hid hb4
 clear hb4 hn hSb hgb htb rT3
 go_wp2_with fail
 refine (dense9_own m Am nm cm w4 (Hm.out.ext (HB2.out.trans' HB4.out))).mono ?_
 rintro e w5 ⟨Ba, ma, da, rfl, ho5, hb5⟩
 have hll := dens9_len m
 have hx6 : Ext w5 (w5.alloc (.cells #[.int .i64 raw] 3)) := (Ext.refl _).alloc_ _
 have hm5 := (OwnI.ints ho5).len.1
 obtain ⟨A6, c6, w6, hrun6, hown6, hgr6, _⟩ := append_ints (Own.ext ho5 hx6) (one_int w5 raw) (by omega) (by have := hb5.b.size; have := Own.lt ho5; simp; omega)
 have hx46 : Ext w4 w6 := ext_of_grown (hb5.alloc_ _) hgr6 (fun k hk => by have := (Own.lt ho5 k hk).1; omega)
 have HIN6 := Lib.hid hown6
 have hlb : ga < gb := by have := HSA3.out.gw; have := HGB.out; omega
 have HGG : Hid (gb < w4.heap.size) := Lib.hid HSB4.out.gw
 have H26 : Hid (Str2 [ga, gb] w6 w6 ga gb ta tb (madeT l) q none 0 0 [] none 0 0 []) := Lib.hid ⟨HSA4.out.base hx46 (HTA3.out.sub (hide_on (HXB.out.trans' hx46) (fun b hb => by
   simp only [List.mem_cons, List.not_mem_nil, or_false] at hb
   rcases hb with rfl | rfl
   ·exact .inl (by simp)
   ·exact .inr HGB.out))) (by simp), HSB4.out.base hx46 (HTB4.out.sub (hide_on hx46 (fun b hb => .inl (by
   simp only [List.mem_cons, List.not_mem_nil, or_false] at hb ⊢
   exact hb.symm)))) (by simp), by omega, fun b hb => by cases hb⟩
 have HB6 := Lib.hid (HB4.out.trans' hx46)
 have hle : ma + 1 = (dens9 m ++ [raw]).length := by simp [hm5]
 rw [hle] at hrun6 HIN6
 have hL : (dens9 m ++ [raw]).length < 17 := by simp; omega
 clear ho5 hb5 hx6 hm5 hll hown6 hgr6 hle hx46
 generalize dens9 m ++ [raw] = L at *
 generalize madeT l = T at *
 go_wp2_with (at_builtin; refine wpList_run_append rfl _ _ _ rfl _ _ rfl rfl _ _ hrun6 ?_)
 go_loopg [56] L.length (fun gh s wx => PuLoop [ga, gb] w6 ga gb ta tb T q L gh s wx)
 case atStart => exact ⟨0, none, 0, 0, none, 0, 0, [], by omega, rfl, H26, Lib.hid (Nat.le_refl _)⟩
 case round =>
  obtain ⟨k, H, hn, hc, H', hn', hc', hs, hkg, rfl, HS, HHL⟩ := hrel
  have HIN : Hid (IntS wr ⟨A6, L.length, c6⟩ L) := Lib.hid (OwnI.ints (HIN6.out.kp HS.out.sa.kp (fun b hb hm => by
   have h1 := (HIN6.out.lt _ hb).1
   have h2 := HGG.out
   simp only [List.mem_cons, List.not_mem_nil, or_false] at hm
   omega)))
  by_cases hlt : k < L.length
  ·obtain ⟨gk', rfl⟩ : ∃ g', gk = g' + 1 := ⟨gk - 1, by omega⟩
   obtain ⟨b, o, hA, hcx⟩ := HIN.out.at_ hlt
   subst hA
   generalize L[k] = x at *
   have hk0 : (0 : Int) ≤ (k : Int) := Int.natCast_nonneg _
   have hk1 : (k : Int) < (L.length : Int) := by omega
   have HPL := Lib.hid (pshH_len T q hs x)
   go_wp2_with fail
   refine (push_spec HS.out.sa (by have := HHL.out; omega) x).mono ?_
   rintro e w7 ⟨B7, m7, d7, H7, hn7, hc7, rfl, hi7, hS7, hk7, _⟩
   have HS7 := Lib.hid (HS.out.push hS7 hk7)
   have HI7 := Lib.hid hi7
   clear hi7 hS7 hk7
   go_wp2_with fail
   refine (rpush_spec HS7.out.sb (by have := HHL.out; omega) x).mono ?_
   rintro e w8 ⟨B8, m8, d8, H8, hn8, hc8, rfl, hi8, hS8, hk8, hik8⟩
   have HS8 := Lib.hid (HS7.out.swap.push hS8 hk8).swap
   have HI78 := Lib.hid (ints_or HI7.out hik8)
   have HI8 := Lib.hid hi8
   obtain ⟨er, her⟩ : ∃ er, pshE T q hs x = er := ⟨_, rfl⟩
   rw [her]
   clear hi8 hS8 hk8 hik8 her
   go_wp2_with fail
   refine (same_spec _ _ B7 m7 d7 B8 m8 d8 w8 HI78.out HI8.out).mono ?_
   rintro e w9 ⟨rfl, hb9⟩
   rw [(sameB_eq _ _).2 rfl]
   have HS9 := Lib.hid (HS8.out.ext_ hb9)
   clear hb9
   go_wp2_with fail
   refine (held_spec HS9.out.sa).mono ?_
   rintro e w' ⟨rfl, rfl⟩
   go_wp2_with fail
   refine (rheld_spec HS9.out.sb).mono ?_
   rintro e w' ⟨rfl, rfl⟩
   go_wp2_with fail
   refine (HP9.out _ _).mono ?_
   rintro e w' ⟨⟨pz, rfl⟩, rfl⟩
   cases hpz : (pz == 0)
   ·go_wp2_with fail
    go_roundg gk'
    case measure => omega
    case rel => exact ⟨k + 1, _, _, _, _, _, _, _, by omega, by go_num, HS9, Lib.hid (by have := HPL.out; have := HHL.out; omega)⟩
   ·go_wp2_with fail
    refine (end_spec HS9.out.sa).mono ?_
    rintro e w10 ⟨B10, m10, d10, rfl, hi10, hS10, _, hk10⟩
    have HS10 := Lib.hid (HS9.out.push hS10 (strk_end hk10))
    have HI10 := Lib.hid hi10
    clear hi10 hS10 hk10
    go_wp2_with fail
    refine (rend_spec HS10.out.sb).mono ?_
    rintro e w11 ⟨B11, m11, d11, rfl, hi11, hS11, hik11, hk11⟩
    have HS11 := Lib.hid (HS10.out.swap.push hS11 (strk_end hk11)).swap
    have HI11 := Lib.hid hi11
    have HI12 := Lib.hid (HI10.out.ik hik11)
    clear hi11 hS11 hk11 hik11
    go_wp2_with fail
    refine (same_spec _ _ B10 m10 d10 B11 m11 d11 w11 HI12.out HI11.out).mono ?_
    rintro e w12 ⟨rfl, hb12⟩
    rw [(sameB_eq _ _).2 rfl]
    have HS12 := Lib.hid (HS11.out.ext_ hb12)
    clear hb12
    go_wp2_with fail
    go_roundg gk'
    case measure => omega
    case rel => exact ⟨k + 1, _, _, _, _, _, _, [], by omega, by go_num, HS12, Lib.hid (Nat.zero_le _)⟩
  ·have HXR : Hid (Ext w2 wr) := Lib.hid (HB6.out.kp HS.out.sa.kp (fun b hb => by
    have h1 := HGA.out
    simp only [List.mem_cons, List.not_mem_nil, or_false] at hb
    omega))
   go_wp2_with fail
   refine (awake9_spec wr (HG.out.ext (HB2.out.trans' HXR.out))).mono ?_
   rintro e w9 ⟨rfl, hb9⟩
   have HS9 := Lib.hid (HS.out.ext_ hb9)
   clear hb9
   go_wp2_with fail
   refine (end_spec HS9.out.sa).mono ?_
   rintro e w10 ⟨B10, m10, d10, rfl, hi10, hS10, _, hk10⟩
   have HS10 := Lib.hid (HS9.out.push hS10 (strk_end hk10))
   have HI10 := Lib.hid hi10
   clear hi10 hS10 hk10
   go_wp2_with fail
   refine (rend_spec HS10.out.sb).mono ?_
   rintro e w11 ⟨B11, m11, d11, rfl, hi11, hS11, hik11, hk11⟩
   have HS11 := Lib.hid (HS10.out.swap.push hS11 (strk_end hk11)).swap
   have HI11 := Lib.hid hi11
   have HI12 := Lib.hid (HI10.out.ik hik11)
   clear hi11 hS11 hk11 hik11
   go_wp2_with fail
   refine (same_spec _ _ B10 m10 d10 B11 m11 d11 w11 HI12.out HI11.out).mono ?_
   rintro e w12 ⟨rfl, hb12⟩
   rw [(sameB_eq _ _).2 rfl]
   have HS12 := Lib.hid (HS11.out.ext_ hb12)
   clear hb12
   go_wp2_with fail
   refine (held_spec HS12.out.sa).mono ?_
   rintro e w' ⟨rfl, rfl⟩
   go_wp2_with fail
   go_ret
   exact ⟨rfl, HB2.out.trans' (HB6.out.kp HS12.out.sa.kp (fun b hb => by
    have h1 := HGA.out
    simp only [List.mem_cons, List.not_mem_nil, or_false] at hb
    omega))⟩
end Go.Proofs.YtbdabjhankgcmaaGreatDoor
