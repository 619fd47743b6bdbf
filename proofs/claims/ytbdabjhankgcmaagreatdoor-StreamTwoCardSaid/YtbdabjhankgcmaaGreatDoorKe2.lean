/- Walk: keep.maps. -/
import Derived.Test.YtbdabjhankgcmaaGreatDoorKe
import Derived.Deep.LoopGhost
import Derived.Deep.CutRange
import Derived.Deep.RegionHeld3
import Derived.Deep.RegionLaw
import Derived.Deep.DrawnRows
import Derived.StillTailTactics
namespace Go.Proofs.YtbdabjhankgcmaaGreatDoor
open Go.RowKit
attribute [local go_sem ↓] Go.wp_at_zero Go.wp_at_succ
def MapPost (w0 w : World) (g tb : Nat) (A6 : Option Addr) (c6 : Nat) (sta r : List Int) (w' : World) : Prop :=
 ∃ M A8 n8 c8 st, MSt w w0 w' g tb w.heap.size w.heap.size M A8 n8 c8 A6 28 c6 st (runM poolL sta ⟨[], []⟩ r).1 (runM poolL sta ⟨[], []⟩ r).2
def MLoop (w0 w : World) (g tb p6 c6 : Nat) (sta r : List Int) (gh : Nat) (s13 : Value) (wx : World) : Prop :=
 ∃ (k : Nat) (M : List Nat) (A8 : Option Addr) (n8 c8 : Nat) (st : List Int) (P : Mps) (r' : List Int), k + gh = 28 ∧ s13 = .int .i64 k ∧ MSt w w0 wx g tb w.heap.size w.heap.size M A8 n8 c8 (some ⟨p6, 0, none⟩) 28 c6 st P r' ∧
  Hid (runM poolL sta ⟨[], []⟩ r = runM (poolL.drop k) (st.drop k) P r') ∧ P.sta.length ≤ k ∧ P.mps.length ≤ k ∧ w.heap.size ≤ wx.heap.size
def mapIf (c : Int) (P : Mps) (r : List Int) : Bool × Mps × List Int :=
 if (isMapC c r).1 = true then
  if 0 < nxV 3 (mapTo (isMapC c r).2).2 then (true, ⟨P.mps ++ [⟨c, (mapTo (isMapC c r).2).1⟩], P.sta⟩, (mapTo (isMapC c r).2).2.tail) else (false, P, (mapTo (isMapC c r).2).2.tail)
 else (false, P, (isMapC c r).2)
theorem stepM_if (c st : Int) (P : Mps) (r : List Int) : stepM c st P r = (⟨(mapIf c P r).2.1.mps, addL (mapIf c P r).2.1.sta c c (if (mapIf c P r).1 = true then 3 else st)⟩, (mapIf c P r).2.2) := by
 unfold stepM mapIf
 split
 ·split <;> rfl
 ·rfl
set_option maxHeartbeats 6400000 in
set_option maxRecDepth 100000 in
theorem maps_spec (w0 w : World) (g tb : Nat) (A6 : Option Addr) (c6 : Nat) (sta r : List Int) (hs : Src w0 w g r) (hb : Ext w0 w) (hgt : g < tb) (htl : tb < w.heap.size) (hw0 : w0.heap.size ≤ tb) (h5 : w.cell? ⟨tb, 5, none⟩ = some (.slice none 0 0)) (h8 : w.cell? ⟨tb, 8, none⟩ = some (.slice none 0 0)) (hf : ∀ k, w.frozen? ⟨tb, k, none⟩ = false) (h6 : OwnI w (tb + 1) A6 28 c6 sta) :
  Calls Tryz.prog 51 #[.pointer (some ⟨g, 0, none⟩), .pointer (some ⟨tb, 0, none⟩), .slice A6 28 c6] w fun e w' => e = .returned (.tuple #[]) ∧ MapPost w0 w g tb A6 c6 sta r w' := by
 obtain ⟨p6, rfl⟩ := Own.some_ h6 (by omega)
 have hl6 := (OwnI.ints h6).len.1
 have h6t := (Own.lt h6 p6 rfl)
 have HGT : Hid (g < tb) := Lib.hid hgt
 have HL6 := Lib.hid hl6
 have H0 : Hid (∀ w1, Ext w w1 → w.heap.size < w1.heap.size → IntS w1 ⟨some ⟨w.heap.size, 0, none⟩, 28, 28⟩ poolL → MSt w w0 w1 g tb w.heap.size w.heap.size [g, tb, p6] none 0 0 (some ⟨p6, 0, none⟩) 28 c6 sta ⟨[], []⟩ r) := Lib.hid (fun w1 hx hz hp => by
  exact ⟨hs.kp (M := []) (Kp.ofExt hx) (by simp), hb.trans' hx, Kp.ofExt hx, fun k _ _ => hx.b.cell (p := ⟨tb, k, none⟩) htl, fun k => (hx.b.frozen (p := ⟨tb, k, none⟩) htl).trans (hf k), keep_cell (ext_keep hx) h8, OwnMp.nil_ _ _ _, ColAt.nil_ (keep_cell (ext_keep hx) h5) ((hx.b.frozen (p := ⟨tb, 5, none⟩) htl).trans (hf 5)), Own.ext h6 hx,
   fun b hb => by simp only [blkOf, Option.map_some, Option.some.injEq] at hb; omega, by simp, by simp, fun b hb => (by cases hb), fun b hb => by simp only [blkOf, Option.map_some, Option.some.injEq] at hb; simp [hb], fun b hb => by simp at hb; omega, hp.hide_ (by simp; omega)⟩)
 clear hs hb h5 h8 hf h6 hl6
 go_enter Tryz.func51, Tryz.ntmps51
 go_wp2_with fail
 refine (pool_spec w).mono ?_
 rintro e w1 ⟨rfl, hp1, hb1⟩
 have hz1 : w.heap.size < w1.heap.size := by
  obtain ⟨b, o, ha, hc⟩ := hp1.at_ (i := 0) (by decide)
  injection ha with ha
  injection ha with e1 _
  subst e1
  exact World.block_lt_of_cell? _ _ hc
 have HST1 := Lib.hid (H0.out w1 hb1 hz1 hp1)
 clear H0 hp1 hb1
 go_wp2_with fail
 go_loopg [13] 28 (fun gh s13 wx => MLoop w0 w g tb p6 c6 sta r gh s13 wx)
 case atStart => exact ⟨0, [g, tb, p6], none, 0, 0, sta, ⟨[], []⟩, r, rfl, rfl, HST1.out, Lib.hid rfl, Nat.le_refl _, Nat.le_refl _, by omega⟩
 case round =>
  obtain ⟨k, M, A8, n8, c8, st, P, r0, hkg, rfl, hst, HR, hl1, hl2, hzr⟩ := hrel
  have HST := Lib.hid hst
  clear hst HST1 hz1
  by_cases hlt : k < 28
  ·obtain ⟨gk', rfl⟩ : ∃ g', gk = g' + 1 := ⟨gk - 1, by omega⟩
   have hk1 : (k : Int) < 28 := by omega
   have hk0 : (0 : Int) ≤ (k : Int) := Int.natCast_nonneg _
   have hkp : k < poolL.length := by simpa [poolL] using hlt
   have hsl : k < st.length := by have := (OwnI.ints HST.out.o6).len.1; omega
   obtain ⟨b', o', hbo, hpc⟩ := HST.out.pool.at_ hkp
   injection hbo with hbo
   injection hbo with e1 e2
   subst e1 e2
   rw [Nat.zero_add] at hpc
   have hpc := hide_sub hpc
   have HD : Hid (poolL.drop k = poolL[k] :: poolL.drop (k + 1)) := drop_at poolL k hkp
   have HDS : Hid (st.drop k = st[k] :: st.drop (k + 1)) := drop_at st k hsl
   obtain ⟨hs6, hs6f⟩ := own_cell HST.out.o6 k hsl
   generalize poolL[k] = cc at *
   obtain ⟨sk, hsk⟩ : ∃ y, st[k] = y := ⟨_, rfl⟩
   rw [hsk] at hs6 HDS
   obtain ⟨⟨mp, P', r'⟩, hq⟩ : ∃ q, mapIf cc P r0 = q := ⟨_, rfl⟩
   have HQ := Lib.hid hq
   have HR1 : Hid (runM poolL sta ⟨[], []⟩ r = runM (poolL.drop (k + 1)) (st.drop (k + 1)) ⟨P'.mps, addL P'.sta cc cc (if mp = true then 3 else sk)⟩ r') := Lib.hid (by
    rw [HR.out, HD.out, HDS.out, runM, stepM_if, hq])
   obtain ⟨b32, r1, hb32⟩ : ∃ b r1, isMapC cc r0 = (b, r1) := ⟨_, _, rfl⟩
   have HB32 := Lib.hid hb32
   have HSK := Lib.hid hsk
   clear HR HD HDS hq hb32 hsk
   obtain ⟨wo, rfl⟩ : ∃ wo : World, wo = wr := ⟨_, rfl⟩
   go_upto_region 4 with fail
   go_cut [32] from 14 to 74 (fun s32 wx => s32 = .bool b32 ∧ MSt w w0 wx g tb w.heap.size w.heap.size M A8 n8 c8 (some ⟨p6, 0, none⟩) 28 c6 st P r1 ∧ Kp [g] wo wx)
   case first =>
    by_cases h1 : (cc == 128512 || cc == 7684) = true
    ·have HE : Hid (true = b32 ∧ r0 = r1) := Lib.hid (by have h' := HB32.out; rw [isMapC, if_pos h1] at h'; exact Prod.mk.inj h')
     by_cases h2 : cc = 128512
     ·subst h2
      go_wp2_with fail
      go_meet
      case rel => obtain ⟨e1, e2⟩ := HE.out; subst e1 e2; exact ⟨rfl, HST.out, Kp.refl _ _⟩
     ·have h3 : cc = 7684 := by simp only [Bool.or_eq_true, beq_iff_eq] at h1; omega
      subst h3
      go_wp2_with fail
      go_meet
      case rel => obtain ⟨e1, e2⟩ := HE.out; subst e1 e2; exact ⟨rfl, HST.out, Kp.refl _ _⟩
    ·have hn1 : (cc == 128512) = false := by simp only [Bool.or_eq_true, not_or, Bool.not_eq_true] at h1; exact h1.1
     have hn2 : (cc == 7684) = false := by simp only [Bool.or_eq_true, not_or, Bool.not_eq_true] at h1; exact h1.2
     by_cases h3 : cc = 947
     ·have HE : Hid ((nxV 2 r0 == 0) = b32 ∧ r0.tail = r1) := Lib.hid (by have h' := HB32.out; rw [isMapC, if_neg h1, if_pos h3] at h'; exact Prod.mk.inj h')
      clear h1 hn1 hn2
      subst h3
      go_wp2_with fail
      refine (next_spec w0 wo g r0 2 (by decide) (by decide) HST.out.src HST.out.ext).mono ?_
      rintro e w2 ⟨rfl, hs2, hk2, hb2⟩
      have HST2 := Lib.hid (HST.out.next hk2 hs2 hb2 HGT.out htl)
      have HK2 := Lib.hid hk2
      clear hs2 hk2 hb2
      go_wp2_with fail
      go_meet
      case rel => obtain ⟨e1, e2⟩ := HE.out; subst e1 e2; exact ⟨rfl, HST2.out, HK2.out⟩
     ·have HE : Hid (false = b32 ∧ r0 = r1) := Lib.hid (by have h' := HB32.out; rw [isMapC, if_neg h1, if_neg h3] at h'; exact Prod.mk.inj h')
      have hn3 : (cc == 947) = false := by rw [beq_eq_false_iff_ne]; exact h3
      clear h1 h3
      go_wp2_with fail
      go_meet
      case rel => obtain ⟨e1, e2⟩ := HE.out; subst e1 e2; exact ⟨rfl, HST.out, Kp.refl _ _⟩
   case rest =>
    obtain ⟨rfl, hst1, hk1w⟩ := hcut
    obtain ⟨w2, rfl⟩ : ∃ w2 : World, w2 = wc := ⟨_, rfl⟩
    have HST2 := Lib.hid hst1
    have hz2 := hk1w.size
    clear hst1 hk1w HST
    go_upto_if 32 with fail
    go_cut [13] from 14 to 74 (fun s13 wx => s13 = .int .i64 k ∧ ∃ M' A8' n8' c8' st', MSt w w0 wx g tb w.heap.size w.heap.size M' A8' n8' c8' (some ⟨p6, 0, none⟩) 28 c6 st' P' r' ∧ st'.drop (k + 1) = st.drop (k + 1) ∧ wx.cell? ⟨p6, k, none⟩ = some (.int .i64 (if mp = true then 3 else sk)) ∧ P'.sta.length ≤ k ∧ P'.mps.length ≤ k + 1 ∧ w.heap.size ≤ wx.heap.size)
    case first =>
     cases b32
     ·have HE : Hid (false = mp ∧ P = P' ∧ r1 = r') := Lib.hid (by
       have h' := HQ.out
       rw [mapIf, HB32.out, if_neg (by simp)] at h'
       obtain ⟨e1, e2⟩ := Prod.mk.inj h'
       obtain ⟨e2, e3⟩ := Prod.mk.inj e2
       exact ⟨e1, e2, e3⟩)
      have HC6 := Lib.hid (own_cell HST2.out.o6 k hsl).1
      have HSK2 := Lib.hid HSK.out
      go_wp2_with fail
      go_meet
      case rel =>
       obtain ⟨e1, e2, e3⟩ := HE.out
       subst e1 e2 e3
       exact ⟨rfl, M, A8, n8, c8, st, HST2.out, rfl, by rw [HC6.out, HSK2.out]; rfl, hl1, by omega, by omega⟩
     ·have HE : Hid (mapIf cc P r0 = if 0 < nxV 3 r1.tail.tail then (true, ⟨P.mps ++ [⟨cc, (mapTo r1).1⟩], P.sta⟩, r1.tail.tail.tail) else (false, P, r1.tail.tail.tail)) := Lib.hid (by
       rw [mapIf, HB32.out, if_pos rfl]; rfl)
      have hv3 := nxV_bd r1 (n := 3) (by decide)
      go_wp2_with fail
      refine (next_spec w0 w2 g r1 3 (by decide) (by decide) HST2.out.src HST2.out.ext).mono ?_
      rintro e w3 ⟨rfl, hs3, hk3, hb3⟩
      have HX3 := Lib.hid (XSt.new hk3 hs3 hb3 (97 + nxV 3 r1) cc 74)
      have hz3 := hk3.size
      clear hs3 hk3 hb3
      obtain ⟨w4, hw4⟩ : ∃ w4, w4 = (w3.alloc (.cells #[.int .i64 (97 + nxV 3 r1)] 3)).alloc (.cells #[.int .i64 cc, .slice (some ⟨w3.heap.size, 0, none⟩) 1 1] 74) := ⟨_, rfl⟩
      have hz4 : w4.heap.size = w3.heap.size + 2 := by rw [hw4]; simp
      go_upto_region 6 with fail
      rw [← hw4] at HX3 ⊢
      clear hw4
      generalize w3.heap.size = p at *
      obtain ⟨b41, hb41⟩ : ∃ b, (nxV 2 r1.tail == 0) = b := ⟨_, rfl⟩
      have HB41 := Lib.hid hb41
      obtain ⟨a, ha⟩ : ∃ a, 97 + nxV 3 r1 = a := ⟨_, rfl⟩
      rw [ha] at HX3
      have HTO : Hid ((mapTo r1).1 = if b41 = true then [a, 46] else [a]) := Lib.hid (by
       rw [mapTo, ← ha, ← hb41]
       by_cases h0 : nxV 2 r1.tail = 0
       ·rw [if_pos h0, if_pos (by rw [h0]; rfl)]
       ·rw [if_neg h0, if_neg (by rw [beq_iff_eq]; exact h0)])
      have HA := Lib.hid ha
      clear ha hv3
      go_upto_if 41 with ((go_at_call 45; refine (next_spec w0 w4 g r1.tail 2 (by decide) (by decide) HX3.out.src HX3.out.ext).mono ?_; rintro e w5 ⟨rfl, hs5, hk5, hb5⟩))
      have hg2 : g < w2.heap.size := HST2.out.hM g HST2.out.hg
      have HX5 := Lib.hid (HX3.out.next hk5 hs5 hb5 hg2)
      have hz5 := hk5.size
      clear hs5 hk5 hb5 hb41 HX3
      go_cut [13] from 14 to 74 (fun s13 wx => s13 = .int .i64 k ∧ ∃ A n c, XSt w2 w0 wx g r1.tail.tail (p + 1) cc A n c (mapTo r1).1 ∧ w5.heap.size ≤ wx.heap.size)
      case first =>
       cases b41
       ·go_wp2_with fail
        go_meet
        case rel => exact ⟨rfl, _, 1, 1, by rw [HTO.out]; exact HX5.out, Nat.le_refl _⟩
       ·have hm1 := HX5.out.m1
        have hx6 : Ext w5 (w5.alloc (.cells #[.int .i64 46] 3)) := (Ext.refl _).alloc_ _
        have HX6 := Lib.hid (HX5.out.ext_ hx6 hg2)
        obtain ⟨A7, c7, w7, hrun, hown7, hgr7, hat7⟩ := append_ints HX6.out.own (one_int w5 46) (by omega) (by simp; omega)
        have HX7 := Lib.hid (HX6.out.app hown7 hgr7 hat7 hg2 (by omega))
        obtain ⟨hm7, hf7⟩ := HX6.out.mcell hgr7
        have hz7 : w5.heap.size ≤ w7.heap.size := Nat.le_trans hx6.b.size hgr7.size
        clear hown7 hgr7 hat7 hx6
        go_wp2_with (at_builtin; refine wpList_run_append rfl _ _ _ rfl _ _ rfl rfl _ _ hrun ?_)
        go_meet
        case rel => exact ⟨rfl, A7, _, c7, by rw [HTO.out]; exact HX7.out, by simpa using hz7⟩
      case rest =>
       obtain ⟨rfl, A8x, n8x, c8x, hx8, hz8⟩ := hcut
       obtain ⟨w8, rfl⟩ : ∃ w8 : World, w8 = wc := ⟨_, rfl⟩
       have HX8 := Lib.hid hx8
       obtain ⟨b49, hb49⟩ : ∃ b, decide (0 < nxV 3 r1.tail.tail) = b := ⟨_, rfl⟩
       have HB49 := Lib.hid hb49
       clear hx8 HX5 HB41
       go_upto_if 49 with ((go_at_call 45; refine (next_spec w0 w8 g r1.tail.tail 3 (by decide) (by decide) HX8.out.src HX8.out.ext).mono ?_; rintro e w9 ⟨rfl, hs9, hk9, hb9⟩))
       have HX9 := Lib.hid (HX8.out.next hk9 hs9 hb9 hg2)
       have hz9 := hk9.size
       have HST9 := Lib.hid (HST2.out.next HX9.out.kp HX9.out.src HX9.out.ext HGT.out htl)
       clear hs9 hk9 hb9 HX8 hb49
       cases b49
       ·have HE2 : Hid (false = mp ∧ P = P' ∧ r1.tail.tail.tail = r') := Lib.hid (by
         have h' := HQ.out
         rw [HE.out, if_neg (by have h2 := HB49.out; rw [decide_eq_false_iff_not] at h2; exact h2)] at h'
         obtain ⟨e1, e2⟩ := Prod.mk.inj h'
         obtain ⟨e2, e3⟩ := Prod.mk.inj e2
         exact ⟨e1, e2, e3⟩)
        have HC6 := Lib.hid (own_cell HST9.out.o6 k hsl).1
        have HSK2 := Lib.hid HSK.out
        go_wp2_with fail
        go_meet
        case rel =>
         obtain ⟨e1, e2, e3⟩ := HE2.out
         subst e1 e2 e3
         exact ⟨rfl, M, A8, n8, c8, st, HST9.out, rfl, by rw [HC6.out, HSK2.out]; rfl, hl1, by omega, by omega⟩
       ·have HE2 : Hid (true = mp ∧ (⟨P.mps ++ [⟨cc, (mapTo r1).1⟩], P.sta⟩ : Mps) = P' ∧ r1.tail.tail.tail = r') := Lib.hid (by
         have h' := HQ.out
         rw [HE.out, if_pos (by have h2 := HB49.out; rw [decide_eq_true_eq] at h2; exact h2)] at h'
         obtain ⟨e1, e2⟩ := Prod.mk.inj h'
         obtain ⟨e2, e3⟩ := Prod.mk.inj e2
         exact ⟨e1, e2, e3⟩)
        have hm0 := HX9.out.m0
        have hm1 := HX9.out.m1
        have hv8 := HST9.out.v8
        have hXC : Ext w9 (w9.alloc (.cells #[.int .i64 cc, .slice A8x n8x c8x] 74)).drew := ((Ext.refl _).alloc_ _).drew_
        have HXC := Lib.hid hXC
        have hmC := keep_cell (ext_keep hXC) hm0
        have hmC1 := keep_cell (ext_keep hXC) hm1
        have hvC := keep_cell (ext_keep hXC) hv8
        have HUC := Lib.hid (HST9.out.ext_ hXC HGT.out htl)
        have hto : 0 < n8x := by
         have h1 := (OwnI.ints HX9.out.own).len.1
         have h2 : 0 < (mapTo r1).1.length := by rw [HTO.out]; split <;> simp
         omega
        have HSQ : Hid (IntS (hide M (w9.alloc (.cells #[.int .i64 cc, .slice A8x n8x c8x] 74)).drew) ⟨A8x, n8x, c8x⟩ (mapTo r1).1) := Lib.hid ((HX9.out.ext_ hXC hg2).seq (fun b hb => HST2.out.hM b hb) hto)
        have hc0 : (w9.alloc (.cells #[.int .i64 cc, .slice A8x n8x c8x] 74)).drew.cell? ⟨w9.heap.size, 0, none⟩ = some (.int .i64 cc) := World.cell?_alloc_new w9 _ _ 0
        have hc1 : (w9.alloc (.cells #[.int .i64 cc, .slice A8x n8x c8x] 74)).drew.cell? ⟨w9.heap.size, 1, none⟩ = some (.slice A8x n8x c8x) := World.cell?_alloc_new w9 _ _ 1
        have HC0 := Lib.hid hc0
        have HC1 := Lib.hid hc1
        have hn8 := HST9.out.o8.len.1
        have hn8' : n8 ≤ 28 := by omega
        clear hXC hc0 hc1 hn8
        go_wp2_with fail
        go_region_law ((refine step_append_map (by rfl) _ _ (by rfl) M w.heap.size (by rfl) HUC.out.o8 (by rfl) HC0.out HC1.out HSQ.out HUC.out.h8 (by omega) (by simp; omega) ?_
                        intro A13 c13 w13 hown13 hgr13 hat13
                        obtain ⟨M13, hu13⟩ := MSt.push8 HUC.out hown13 hgr13 hat13 HGT.out htl (Nat.le_refl _) hw0
                        obtain ⟨hc13, hf13⟩ := MSt.tcell HUC.out hgr13 htl 8
                        have hc13' := hc13.trans HUC.out.v8
                        have hz13 := Nat.le_trans (Ext.b HXC.out).size hgr13.size
                        have HU13 := Lib.hid hu13
                        have HU14 := Lib.hid (hu13.set6 k 3 HGT.out hw0)
                        obtain ⟨hk13, hfk13⟩ := own_cell hu13.o6 k hsl
                        clear hown13 hgr13 hat13 hu13 hc13))
        all_goals
         have HCK := Lib.hid (World.cell?_setCell_same _ _ (.int .i64 3) hk13)
         go_wp2_with fail
         go_meet
         case rel =>
          obtain ⟨e1, e2, e3⟩ := HE2.out
          subst e1 e2 e3
          exact ⟨rfl, M13, A13, _, c13, _, HU14.out, by rw [List.drop_set_of_lt (by omega)], HCK.out, hl1, by simp; omega, by simp; omega⟩
    case rest =>
     obtain ⟨rfl, M5, A5, n5, c5, st5, hst5, hd5, hc5, hl5, hl6, hz5⟩ := hcut
     obtain ⟨w5, rfl⟩ : ∃ w5 : World, w5 = wc := ⟨_, rfl⟩
     have HST5 := Lib.hid hst5
     have HD5 := Lib.hid hd5
     obtain ⟨y, hy⟩ : ∃ y, (if mp = true then 3 else sk) = y := ⟨_, rfl⟩
     rw [hy] at hc5 HR1
     clear hst5 hd5 HST2 hy
     go_wp2_with fail
     go_still_tail 10, (by kernel_rfl)
     go_wp2_with fail
     refine (add_col M5 w0 _ tb 5 P'.sta cc cc 0 y HST5.out.ht (fun b hb => by simpa using HST5.out.hM b hb) (HST5.out.ext.trans' (Ext.refl _).drew_) hw0 (HST5.out.ext_ (Ext.refl _).drew_ HGT.out htl).col (by omega)).mono ?_
     rintro e w6 ⟨rfl, hp6⟩
     have HST6 := Lib.hid ((HST5.out.ext_ (Ext.refl _).drew_ HGT.out htl).add5 hp6 HGT.out htl)
     have hz6 : w5.heap.size ≤ w6.heap.size := hp6.kp.size
     have hal := addL_len P'.sta cc cc y
     have HAL := Lib.hid hal
     clear hp6 hal
     go_wp2_with fail
     go_roundg gk'
     case measure => omega
     case rel => exact ⟨k + 1, M5, A5, n5, c5, st5, _, r', by omega, by go_num, HST6.out, Lib.hid (by rw [HR1.out, HD5.out]), by have h' := HAL.out; simp only; omega, by simp only; omega, by omega⟩
  ·obtain rfl : gk = 0 := by omega
   obtain rfl : k = 28 := by omega
   have HRX : Hid (runM poolL sta ⟨[], []⟩ r = (P, r0)) := Lib.hid (by
    rw [HR.out, drop_all poolL 28 (by decide)]
    cases List.drop 28 st <;> rfl)
   go_wp2_with fail
   go_end0
   exact ⟨rfl, M, A8, n8, c8, st, by rw [HRX.out]; exact HST.out⟩
end Go.Proofs.YtbdabjhankgcmaaGreatDoor
