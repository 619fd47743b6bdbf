/- Walk: keep.decomps. -/
import Derived.Test.YtbdabjhankgcmaaGreatDoorKd
import Derived.Deep.LoopGhost
import Derived.Deep.CutRange
import Derived.Deep.RegionHeld3
import Derived.Deep.RegionLaw
import Derived.Deep.DrawnRows
namespace Go.Proofs.YtbdabjhankgcmaaGreatDoor
open Go.RowKit
attribute [local go_sem ↓] Go.wp_at_zero Go.wp_at_succ
theorem decSeq_pos (k : Nat) (r : List Int) : 0 < (decSeq k r).1.length := by
 unfold decSeq
 split <;> simp
def DecPost (w0 w : World) (g tb : Nat) (E : List Nat) (r : List Int) (w' : World) : Prop :=
 ∃ M A9 n9 c9 A10 n10 c10, DSt w w0 w' g tb w.heap.size E M A9 n9 c9 A10 n10 c10 (runD 5 0 ⟨[], []⟩ r).1 (runD 5 0 ⟨[], []⟩ r).2
def DLoop (w0 w : World) (g tb : Nat) (E : List Nat) (r : List Int) (gh : Nat) (s4 : Value) (wx : World) : Prop :=
 ∃ (k : Nat) (M : List Nat) (A9 : Option Addr) (n9 c9 : Nat) (A10 : Option Addr) (n10 c10 : Nat) (D : Decs) (r' : List Int), k + gh = 5 ∧ s4 = .int .i64 k ∧ DSt w w0 wx g tb w.heap.size E M A9 n9 c9 A10 n10 c10 D r' ∧ Hid (runD 5 0 ⟨[], []⟩ r = runD gh k D r') ∧ D.dec.length ≤ k ∧ D.exc.length ≤ k ∧ w.heap.size ≤ wx.heap.size
set_option maxHeartbeats 6400000 in
set_option maxRecDepth 100000 in
theorem decomps_spec (w0 w : World) (g tb : Nat) (E : List Nat) (r : List Int) (hE : ∀ b ∈ E, b < w.heap.size) (hs : Src w0 w g r) (hb : Ext w0 w) (hgt : g < tb) (htl : tb < w.heap.size) (hw0 : w0.heap.size ≤ tb) (h9 : w.cell? ⟨tb, 9, none⟩ = some (.slice none 0 0)) (h10 : w.cell? ⟨tb, 10, none⟩ = some (.slice none 0 0)) (hf : ∀ k, w.frozen? ⟨tb, k, none⟩ = false) :
  Calls Tryz.prog 50 #[.pointer (some ⟨g, 0, none⟩), .pointer (some ⟨tb, 0, none⟩)] w fun e w' => e = .returned (.tuple #[]) ∧ DecPost w0 w g tb E r w' := by
 have HS0 : Hid (DSt w w0 w g tb w.heap.size E (g :: tb :: E) none 0 0 none 0 0 ⟨[], []⟩ r) := Lib.hid ⟨hs, hb, Kp.refl _ _, fun _ _ _ => rfl, hf, h9, h10, OwnMp.nil_ _ _ _, Own.nil_ _ _ _ _, by simp, by simp, fun b hb => (by cases hb), fun b hb => (by cases hb), fun b hb => by rw [List.mem_cons, List.mem_cons] at hb; rcases hb with rfl | rfl | hb; omega; exact htl; exact hE b hb, fun b hb => ⟨by simp [hb], hE b hb⟩⟩
 have HGT : Hid (g < tb) := Lib.hid hgt
 clear hs hb h9 h10 hf
 go_enter Tryz.func50, Tryz.ntmps50
 go_wp2_with fail
 go_loopg [4] 5 (fun gh s4 wx => DLoop w0 w g tb E r gh s4 wx)
 case atStart => exact ⟨0, g :: tb :: E, none, 0, 0, none, 0, 0, ⟨[], []⟩, r, rfl, rfl, HS0.out, Lib.hid rfl, Nat.le_refl _, Nat.le_refl _, Nat.le_refl _⟩
 case round =>
  obtain ⟨k, M, A9, n9, c9, A10, n10, c10, D, r0, hkg, rfl, hst, HR, hl1, hl2, hzr⟩ := hrel
  have HST := Lib.hid hst
  clear hst
  by_cases hlt : k < 5
  ·obtain ⟨gk', rfl⟩ : ∃ g', gk = g' + 1 := ⟨gk - 1, by omega⟩
   have hk1 : (k : Int) < 5 := by omega
   have hk0 : (0 : Int) ≤ (k : Int) := Int.natCast_nonneg _
   have HR1 : Hid (runD 5 0 ⟨[], []⟩ r = runD gk' (k + 1) (stepD k D r0).1 (stepD k D r0).2) := Lib.hid (by rw [HR.out]; rfl)
   clear HR
   obtain ⟨wo, rfl⟩ : ∃ wo : World, wo = wr := ⟨_, rfl⟩
   go_wp2_with fail
   refine (next_spec w0 wo g r0 4 (by decide) (by decide) HST.out.src HST.out.ext).mono ?_
   rintro e w1 ⟨rfl, hs1, hk1', hb1⟩
   have hz1 := hk1'.size
   have HS1 := Lib.hid (HST.out.next hk1' hs1 hb1 HGT.out htl)
   clear hs1 hk1' hb1 HST
   by_cases hv : nxV 4 r0 = 0
   ·have hvb : (nxV 4 r0 == 0) = true := by rw [beq_iff_eq]; exact hv
    have HQ : Hid (stepD k D r0 = (D, r0.tail)) := Lib.hid (by rw [stepD, if_pos hv])
    clear hv
    go_wp2_with fail
    go_roundg gk'
    case measure => omega
    case rel => exact ⟨k + 1, M, A9, n9, c9, A10, n10, c10, D, r0.tail, by omega, by go_num, HS1.out, Lib.hid (by rw [HR1.out, HQ.out]), by omega, by omega, by omega⟩
   ·have hvb : (nxV 4 r0 == 0) = false := by rw [beq_eq_false_iff_ne]; exact hv
    obtain ⟨q, hq⟩ : ∃ q, decSeq k r0.tail = q := ⟨_, rfl⟩
    have HQ : Hid (stepD k D r0 = (⟨D.dec ++ [⟨7680 + k, q.1⟩], if anySame q.1 (nxV 6 q.2 == 0) D.dec = true then D.exc ++ [7680 + (k : Int)] else D.exc⟩, q.2.tail)) := Lib.hid (by rw [stepD, if_neg hv, hq])
    have HQ0 := Lib.hid hq
    clear hv hq
    go_wp2_with fail
    refine (next_spec w0 w1 g r0.tail 2 (by decide) (by decide) HS1.out.src HS1.out.ext).mono ?_
    rintro e w2 ⟨rfl, hs2, hk2, hb2⟩
    have hz2 := hk2.size
    have HS2 := Lib.hid (HS1.out.next hk2 hs2 hb2 HGT.out htl)
    clear hs2 hk2 hb2 HS1
    have hv2 := nxV_bd r0.tail (n := 2) (by decide)
    go_upto_region 5 with fail
    have HU2 := Lib.hid (RSt.new HS2.out HGT.out htl (by omega) (97 + nxV 2 r0.tail) (7680 + (k : Int)) 74)
    obtain ⟨w3, hw3⟩ : ∃ w3, w3 = (w2.alloc (.cells #[.int .i64 (97 + nxV 2 r0.tail)] 3)).alloc (.cells #[.int .i64 (7680 + (k : Int)), .slice (some ⟨w2.heap.size, 0, none⟩) 1 1] 74) := ⟨_, rfl⟩
    rw [← hw3] at HU2 ⊢
    have hz3 : w3.heap.size = w2.heap.size + 2 := by rw [hw3]; simp
    clear hw3 HS2
    generalize w2.heap.size = p at *
    obtain ⟨M3, hM3⟩ : ∃ M3, M3 = (p + 1) :: p :: M := ⟨_, rfl⟩
    rw [← hM3] at HU2
    clear hM3
    obtain ⟨a2, ha2⟩ : ∃ a, 97 + nxV 2 r0.tail = a := ⟨_, rfl⟩
    obtain ⟨r1, hr1⟩ : ∃ r1, r0.tail.tail = r1 := ⟨_, rfl⟩
    rw [ha2, hr1] at HU2
    obtain ⟨b29, r2, hb29⟩ : ∃ b r2, (if k = 0 then (false, r1) else (nxV 3 r1 == 0, r1.tail)) = (b, r2) := ⟨_, _, rfl⟩
    have HFST : Hid (decFst k r0.tail = if b29 = true then (7680 + nxV k r2, r2.tail) else (a2, r2)) := Lib.hid (by
     rw [← ha2]
     unfold decFst
     rw [hr1]
     by_cases h0 : k = 0
     ·rw [if_pos h0] at hb29 ⊢
      obtain ⟨e1, e2⟩ := Prod.mk.inj hb29
      subst e1 e2
      rfl
     ·rw [if_neg h0] at hb29 ⊢
      obtain ⟨e1, e2⟩ := Prod.mk.inj hb29
      subst e1 e2
      by_cases h3 : nxV 3 r1 = 0
      ·rw [if_pos h3, if_pos (by rw [h3]; rfl)]
      ·rw [if_neg h3, if_neg (by rw [beq_iff_eq]; exact h3)])
    have hkpos : b29 = true → 0 < k := by
     intro h'
     rw [h'] at hb29
     rcases Nat.eq_zero_or_pos k with h0 | h0
     ·rw [if_pos h0] at hb29; cases hb29
     ·exact h0
    have HB29 := Lib.hid hb29
    have HA2 := Lib.hid ha2
    have HR1' := Lib.hid hr1
    clear hb29 ha2 hr1 hv2
    go_cut [29] from 9 to 92 (fun s29 wx => s29 = .bool b29 ∧ RSt w w0 wx g tb w.heap.size E M3 A9 n9 c9 A10 n10 c10 D r2 (p + 1) (7680 + k) (some ⟨p, 0, none⟩) 1 1 [a2] ∧ w3.heap.size ≤ wx.heap.size)
    case first =>
     by_cases h0 : k = 0
     ·have hd0 : decide (0 < k) = false := by simp [h0]
      have hdi : decide ((0 : Int) < (k : Int)) = false := by simp [h0]
      have HE : Hid (false = b29 ∧ r1 = r2) := Lib.hid (by have h' := HB29.out; rw [if_pos h0] at h'; exact Prod.mk.inj h')
      clear h0
      go_wp2_with fail
      go_meet
      case rel => obtain ⟨e1, e2⟩ := HE.out; subst e1 e2; exact ⟨rfl, HU2.out, Nat.le_refl _⟩
     ·have hd0 : decide (0 < k) = true := by simp; omega
      have hdi : decide ((0 : Int) < (k : Int)) = true := by simp; omega
      have HE : Hid ((nxV 3 r1 == 0) = b29 ∧ r1.tail = r2) := Lib.hid (by have h' := HB29.out; rw [if_neg h0] at h'; exact Prod.mk.inj h')
      clear h0
      go_wp2_with fail
      refine (next_spec w0 w3 g r1 3 (by decide) (by decide) HU2.out.st.src HU2.out.st.ext).mono ?_
      rintro e w4 ⟨rfl, hs4, hk4, hb4⟩
      have hz4 := hk4.size
      have HU4 := Lib.hid (HU2.out.next hk4 hs4 hb4 HGT.out htl)
      clear hs4 hk4 hb4
      go_wp2_with fail
      go_meet
      case rel => obtain ⟨e1, e2⟩ := HE.out; subst e1 e2; exact ⟨rfl, HU4.out, hz4⟩
    case rest =>
     obtain ⟨rfl, hu4, hz4⟩ := hcut
     obtain ⟨w4, rfl⟩ : ∃ w4 : World, w4 = wc := ⟨_, rfl⟩
     have HU4 := Lib.hid hu4
     clear hu4 HU2 HB29
     obtain ⟨a, r3, har⟩ : ∃ a r3, decFst k r0.tail = (a, r3) := ⟨_, _, rfl⟩
     have HA := Lib.hid har
     clear har
     go_upto_if 29 with fail
     go_cut [4] from 9 to 92 (fun s4 wx => s4 = .int .i64 k ∧ RSt w w0 wx g tb w.heap.size E M3 A9 n9 c9 A10 n10 c10 D r3 (p + 1) (7680 + k) (some ⟨p, 0, none⟩) 1 1 [a] ∧ w4.heap.size ≤ wx.heap.size)
     case first =>
      have HE := Lib.hid (HFST.out.symm.trans HA.out)
      cases b29
      ·go_wp2_with fail
       go_meet
       case rel => obtain ⟨e1, e2⟩ := Prod.mk.inj HE.out; subst e1 e2; exact ⟨rfl, HU4.out, Nat.le_refl _⟩
      ·have hkp : 0 < k := hkpos rfl
       have hnk := nxV_bd r2 (n := (k : Int)) (by omega)
       have hm1 := HU4.out.m1
       have hwr : IntKind.i64.wrap (7680 + nxV (k : Int) r2) = 7680 + nxV (k : Int) r2 := IntWalk.i64_in _ (by omega)
       go_wp2_with fail
       go_region_with ((go_at_call 45; refine (next_spec w0 _ g r2 k (by omega) (by omega) (HU4.out.st.src.kp (M := []) (Kp.ofExt (Ext.refl _).drew_) (by simp)) (HU4.out.st.ext.drew_)).mono ?_; rintro e w5 ⟨rfl, hs5, hk5, hb5⟩; have HU5 := Lib.hid ((HU4.out.ext_ (Ext.refl w4).drew_ HGT.out htl).next hk5 hs5 hb5 HGT.out htl); have hm5 := HU5.out.m1; obtain ⟨hp5, hf5⟩ := own_one_cell HU5.out.own; have hz5 := hk5.size; clear hs5 hk5 hb5))
       all_goals
        go_wp2_with fail
        go_meet
        case rel => obtain ⟨e1, e2⟩ := Prod.mk.inj HE.out; subst e1 e2; exact ⟨rfl, HU5.out.put HGT.out htl (Nat.le_refl _) hw0 _, by simpa using hz5⟩
     case rest =>
      obtain ⟨rfl, hu5, hz5⟩ := hcut
      obtain ⟨w5, rfl⟩ : ∃ w5 : World, w5 = wc := ⟨_, rfl⟩
      have HU5 := Lib.hid hu5
      clear hu5 HU4 HFST
      have HQ5 : Hid (q = if 0 < nxV 8 r3 then ([a, marksL.getD (nxV 5 r3.tail).toNat 0], r3.tail.tail) else ([a], r3.tail)) := Lib.hid (by rw [← HQ0.out, decSeq, HA.out])
      obtain ⟨b39, hb39⟩ : ∃ b, decide (0 < nxV 8 r3) = b := ⟨_, rfl⟩
      have HB39 := Lib.hid hb39
      go_upto_if 39 with ((go_at_call 45; refine (next_spec w0 w5 g r3 8 (by decide) (by decide) HU5.out.st.src HU5.out.st.ext).mono ?_; rintro e w6 ⟨rfl, hs6, hk6, hb6⟩))
      have hz6 := hk6.size
      have HU6 := Lib.hid (HU5.out.next hk6 hs6 hb6 HGT.out htl)
      clear hs6 hk6 hb6 HU5 hb39
      go_cut [4] from 9 to 92 (fun s4 wx => s4 = .int .i64 k ∧ ∃ M4 A n c, RSt w w0 wx g tb w.heap.size E M4 A9 n9 c9 A10 n10 c10 D q.2 (p + 1) (7680 + k) A n c q.1 ∧ w5.heap.size ≤ wx.heap.size)
      case first =>
       cases b39
       ·have HE : Hid (q = ([a], r3.tail)) := Lib.hid (HQ5.out.trans (if_neg (by have h' := HB39.out; rw [decide_eq_false_iff_not] at h'; exact h')))
        go_wp2_with fail
        go_meet
        case rel => exact ⟨rfl, M3, _, 1, 1, by rw [HE.out]; exact HU6.out, hz6⟩
       ·have hv5 := nxV_bd r3.tail (n := 5) (by decide)
        obtain ⟨v, hv⟩ : ∃ v : Nat, nxV 5 r3.tail = v := ⟨(nxV 5 r3.tail).toNat, by omega⟩
        have hvl : v < 5 := by omega
        obtain ⟨y, hy⟩ : ∃ y, marksL.getD v 0 = y := ⟨_, rfl⟩
        have HE : Hid (q = ([a, y], r3.tail.tail)) := Lib.hid (HQ5.out.trans (by rw [if_pos (by have h' := HB39.out; rw [decide_eq_true_eq] at h'; exact h'), hv, Int.toNat_natCast, hy]))
        have hg1 : (#[.int .i64 769, .int .i64 776, .int .i64 803, .int .i64 837, .int .i64 945] : Array Value)[v]? = some (.int .i64 y) := by
         rw [← hy]
         match v, hvl with
         | 0, _ | 1, _ | 2, _ | 3, _ | 4, _ => rfl
        have hg2 : ∀ h, ([.int .i64 769, .int .i64 776, .int .i64 803, .int .i64 837, .int .i64 945] : List Value)[v]'h = .int .i64 y := by
         intro h
         rw [← hy]
         match v, hvl with
         | 0, _ | 1, _ | 2, _ | 3, _ | 4, _ => rfl
        have hi0 : (0 : Int) ≤ (v : Int) := Int.natCast_nonneg _
        have hi1 : (v : Int) < 5 := by omega
        have hm6 := HU6.out.m1
        have HV := Lib.hid hv
        clear hv hy hv5
        have hp6 : p + 1 < w6.heap.size := HU6.out.st.hM _ HU6.out.hmb
        have hnm6 := World.new_ne w6 _ hm6
        have X1 : Hid (Ext w6 w6.drew) := Lib.hid (Ext.refl _).drew_
        have X2 : Hid (Ext w6 (w6.alloc (.cells #[.int .i64 769, .int .i64 776, .int .i64 803, .int .i64 837, .int .i64 945] 3)).drew) := Lib.hid (((Ext.refl _).alloc_ _).drew_)
        have S1 : Hid (Src w0 w6.drew g r3.tail) := Lib.hid (HU6.out.st.src.kp (M := []) (Kp.ofExt X1.out) (by simp))
        have S2 : Hid (Src w0 (w6.alloc (.cells #[.int .i64 769, .int .i64 776, .int .i64 803, .int .i64 837, .int .i64 945] 3)).drew g r3.tail) := Lib.hid (HU6.out.st.src.kp (M := []) (Kp.ofExt X2.out) (by simp))
        have E1 := Lib.hid (HU6.out.st.ext.trans' X1.out)
        have E2 := Lib.hid (HU6.out.st.ext.trans' X2.out)
        go_wp2_with fail
        go_region_law
         (first
          | (refine step_append_ints (by rfl) _ _ (by rfl) w.heap.size (by rfl) (Own.ext HU7.out.own ((Ext.refl w7).alloc_ (.cells #[.int .i64 y] 3))) (by rfl) (one_int _ y) (by omega) (by simp; omega) ?_
             intro A8 c8 w8 hown8 hgr8 hat8
             obtain ⟨hm8, hf8⟩ := RSt.mcell (HU7.out.ext_ ((Ext.refl w7).alloc_ (.cells #[.int .i64 y] 3)) HGT.out htl) hgr8
             obtain ⟨M8, hu8⟩ := RSt.app (HU7.out.ext_ ((Ext.refl w7).alloc_ (.cells #[.int .i64 y] 3)) HGT.out htl) hown8 hgr8 hat8 HGT.out htl (Nat.le_refl _) hw0
             have HU8 := Lib.hid hu8
             have hz8 : w7.heap.size ≤ w8.heap.size := Nat.le_trans (Ext.b ((Ext.refl w7).alloc_ (.cells #[.int .i64 y] 3))).size hgr8.size
             clear hown8 hgr8 hat8 hu8)
          | (refine step_append_ints (by rfl) _ _ (by rfl) w.heap.size (by rfl) (Own.ext HU7.out.own (((Ext.refl w7).alloc_ (.cells #[.int .i64 769, .int .i64 776, .int .i64 803, .int .i64 837, .int .i64 945] 3)).alloc_ (.cells #[.int .i64 y] 3))) (by rfl) (one_int' (w := w7.alloc (.cells #[.int .i64 769, .int .i64 776, .int .i64 803, .int .i64 837, .int .i64 945] 3)) (H := w7.heap.size + 1) (by simp) y) (by omega) (by simp; omega) ?_
             intro A8 c8 w8 hown8 hgr8 hat8
             obtain ⟨hm8, hf8⟩ := RSt.mcell (HU7.out.ext_ (((Ext.refl w7).alloc_ (.cells #[.int .i64 769, .int .i64 776, .int .i64 803, .int .i64 837, .int .i64 945] 3)).alloc_ (.cells #[.int .i64 y] 3)) HGT.out htl) hgr8
             obtain ⟨M8, hu8⟩ := RSt.app (HU7.out.ext_ (((Ext.refl w7).alloc_ (.cells #[.int .i64 769, .int .i64 776, .int .i64 803, .int .i64 837, .int .i64 945] 3)).alloc_ (.cells #[.int .i64 y] 3)) HGT.out htl) hown8 hgr8 hat8 HGT.out htl (Nat.le_refl _) hw0
             have HU8 := Lib.hid hu8
             have hz8 : w7.heap.size ≤ w8.heap.size := Nat.le_trans (Ext.b (((Ext.refl w7).alloc_ (.cells #[.int .i64 769, .int .i64 776, .int .i64 803, .int .i64 837, .int .i64 945] 3)).alloc_ (.cells #[.int .i64 y] 3))).size hgr8.size
             clear hown8 hgr8 hat8 hu8)
          | (go_simp
             go_at_call 45
             refine (next_spec w0 (w6.drew) g r3.tail 5 (by decide) (by decide) S1.out E1.out).mono ?_
             rintro e w7 ⟨rfl, hs7, hk7, hb7⟩
             rw [HV.out]
             have HU7 : Hid (RSt w w0 w7 g tb w.heap.size E M3 A9 n9 c9 A10 n10 c10 D r3.tail.tail (p + 1) (7680 + k) (some ⟨p, 0, none⟩) 1 1 [a]) := Lib.hid ((HU6.out.ext_ X1.out HGT.out htl).next hk7 hs7 hb7 HGT.out htl)
             have hm7 := HU7.out.m1
             have hnm7 := World.new_ne w7 _ hm7
             have hz7 : w6.heap.size ≤ w7.heap.size := Nat.le_trans X1.out.b.size hk7.size
             have hpl7 : p + 1 < w7.heap.size := by omega
             have hpn7 : ¬ p = w7.heap.size := by omega
             have hpm7 : ((w7.alloc (.cells #[.int .i64 769, .int .i64 776, .int .i64 803, .int .i64 837, .int .i64 945] 3)).alloc (.cells #[.int .i64 y] 3)).cell? ⟨p + 1, 1, none⟩ = some (.slice (some ⟨p, 0, none⟩) 1 1) := keep_cell (ext_keep (((Ext.refl w7).alloc_ _).alloc_ _)) hm7
             clear hs7 hk7 hb7)
          | (go_simp
             go_at_call 45
             refine (next_spec w0 ((w6.alloc (.cells #[.int .i64 769, .int .i64 776, .int .i64 803, .int .i64 837, .int .i64 945] 3)).drew) g r3.tail 5 (by decide) (by decide) S2.out E2.out).mono ?_
             rintro e w7 ⟨rfl, hs7, hk7, hb7⟩
             rw [HV.out]
             have HU7 : Hid (RSt w w0 w7 g tb w.heap.size E M3 A9 n9 c9 A10 n10 c10 D r3.tail.tail (p + 1) (7680 + k) (some ⟨p, 0, none⟩) 1 1 [a]) := Lib.hid ((HU6.out.ext_ X2.out HGT.out htl).next hk7 hs7 hb7 HGT.out htl)
             have hm7 := HU7.out.m1
             have hnm7 := World.new_ne w7 _ hm7
             have hz7 : w6.heap.size ≤ w7.heap.size := Nat.le_trans X2.out.b.size hk7.size
             have hmk7 : w7.cell? ⟨w6.heap.size, v, none⟩ = some (.int .i64 y) := by
              rw [hk7.cell ⟨w6.heap.size, v, none⟩ (by simp) (by simp; omega)]
              exact (World.cell?_alloc_new w6 _ _ v).trans hg1
             have hpl7 : p + 1 < w7.heap.size := by omega
             have hpn7 : ¬ p = w7.heap.size := by omega
             have hpm7 : ((w7.alloc (.cells #[.int .i64 769, .int .i64 776, .int .i64 803, .int .i64 837, .int .i64 945] 3)).alloc (.cells #[.int .i64 y] 3)).cell? ⟨p + 1, 1, none⟩ = some (.slice (some ⟨p, 0, none⟩) 1 1) := keep_cell (ext_keep (((Ext.refl w7).alloc_ _).alloc_ _)) hm7
             clear hs7 hk7 hb7))
        all_goals
         go_wp2_with fail
         go_meet
         case rel => exact ⟨rfl, M8, A8, _, c8, by rw [HE.out]; exact HU8.out, by simp; omega⟩
      case rest =>
       obtain ⟨rfl, M4, A4, n4, c4, hu8, hz8⟩ := hcut
       obtain ⟨w8, rfl⟩ : ∃ w8 : World, w8 = wc := ⟨_, rfl⟩
       have HU8 := Lib.hid hu8
       clear hu8 HU6 HQ5 HB39
       go_wp2_with fail
       refine (next_spec w0 w8 g q.2 6 (by decide) (by decide) HU8.out.st.src HU8.out.st.ext).mono ?_
       rintro e w9 ⟨rfl, hs9, hk9, hb9⟩
       have hz9 := hk9.size
       have HU9 := Lib.hid (HU8.out.next hk9 hs9 hb9 HGT.out htl)
       clear hs9 hk9 hb9 HU8
       obtain ⟨t0, ht0⟩ : ∃ b, (nxV 6 q.2 == 0) = b := ⟨_, rfl⟩
       have HT0 := Lib.hid ht0
       have h9c := HU9.out.st.v9
       obtain ⟨hn9, hn9c, hn9m⟩ := HU9.out.st.o9.len
       have hm9 := HU9.out.m1
       have HMS := Lib.hid HU9.out.st.o9.maps0
       have HTO := Lib.hid (OwnI.ints HU9.out.own)
       have hpb : p + 1 < w9.heap.size := HU9.out.st.hM _ HU9.out.hmb
       subst hn9
       go_wp2_with fail
       clear ht0
       go_loopw [6, 58] (fun s6 s58 wx => ∃ (j : Nat) (b : Bool), j ≤ D.dec.length ∧ s58 = .int .i64 j ∧ s6 = .bool b ∧ Hid (anySame q.1 t0 D.dec = anySame q.1 b (D.dec.drop j)) ∧ Ext w9 wx) (fun _ s58 _ => D.dec.length - (intOf s58).toNat)
       case atStart => exact ⟨0, t0, Nat.zero_le _, rfl, rfl, Lib.hid rfl, Ext.refl _⟩
       case round =>
        obtain ⟨j, b, hj, rfl, rfl, HS, hbx⟩ := hrel
        have hbz : w9.heap.size ≤ wr.heap.size := hbx.b.size
        by_cases hjl : j < D.dec.length
        ·have HD : Hid (D.dec.drop j = D.dec[j] :: D.dec.drop (j + 1)) := drop_at D.dec j hjl
         obtain ⟨bb, oo, za, zn, zc, hA9, g0, g1, gz⟩ := (MapS.ext HMS.out hbx).at_ hjl
         generalize D.dec[j] = d at *
         have hm0 := (hbx.b.cell (p := ⟨p + 1, 1, none⟩) hpb).trans hm9
         have hxd : Ext wr (wr.alloc (.cells #[.int .i64 d.lo, .slice za zn zc] 74)) := (Ext.refl _).alloc_ _
         have hmA := keep_cell (ext_keep hxd) hm0
         have hbd := hbx.trans' hxd
         have HZ := Lib.hid gz
         have HA9 := Lib.hid hA9
         have HSS := hid_trans HS (show _ = anySame q.1 (b || sameB d.to q.1) (D.dec.drop (j + 1)) from by rw [HD.out]; rfl)
         clear HS HD gz
         have hj0 : (0 : Int) ≤ (j : Int) := Int.natCast_nonneg _
         have hj1 : (j : Int) < (D.dec.length : Int) := by omega
         subst hA9
         cases b
         ·go_wp2_with fail
          refine (same_spec d.to q.1 _ _ _ _ _ _ _ (IntS.ext HZ.out hxd) (IntS.ext HTO.out hbd)).mono ?_
          rintro e w10 ⟨rfl, hb10⟩
          go_wp2_with fail
          go_roundw
          case rel => exact ⟨j + 1, sameB d.to q.1, by omega, by go_num, rfl, Lib.hid (by rw [HSS.out, Bool.false_or]), hbd.trans' hb10⟩
          case measure => simp [intOf]; omega
         ·go_wp2_with fail
          go_roundw
          case rel => exact ⟨j + 1, true, by omega, by go_num, rfl, Lib.hid (by rw [HSS.out, Bool.true_or]), hbd⟩
          case measure => simp [intOf]; omega
        ·have HB : Hid (anySame q.1 t0 D.dec = b) := hid_trans HS (show _ = b from by rw [drop_all D.dec j (by omega)]; rfl)
         have HU10 := Lib.hid (HU9.out.ext_ hbx HGT.out htl)
         clear HS hbx HU9 HMS HTO hm9 h9c
         go_upto_if 71 with fail
         obtain ⟨w10, rfl⟩ : ∃ w10 : World, w10 = wr := ⟨_, rfl⟩
         go_cut [4] from 9 to 92 (fun s4 wx => s4 = .int .i64 k ∧ ∃ M5 A10' n10' c10', RSt w w0 wx g tb w.heap.size E M5 A9 D.dec.length c9 A10' n10' c10' ⟨D.dec, if b = true then D.exc ++ [7680 + (k : Int)] else D.exc⟩ q.2.tail (p + 1) (7680 + k) A4 n4 c4 q.1 ∧ w10.heap.size ≤ wx.heap.size)
         case first =>
          cases b
          ·go_wp2_with fail
           go_meet
           case rel => exact ⟨rfl, M4, A10, n10, c10, HU10.out, Nat.le_refl _⟩
          ·have hm10 := HU10.out.m0
           have hv10 := HU10.out.st.v10
           have hXB : Ext w10 (w10.alloc (.cells #[.int .i64 (7680 + (k : Int))] 3)).drew := ((Ext.refl _).alloc_ _).drew_
           have HX10 := Lib.hid hXB
           have hmB := keep_cell (ext_keep hXB) hm10
           have hvB := keep_cell (ext_keep hXB) hv10
           have hn10 := (OwnI.ints HU10.out.st.o10).len.1
           have HO10 := Lib.hid HU10.out.st.o10
           have hn10' : n10 ≤ 5 := by omega
           clear hn10 hXB
           go_wp2_with fail
           go_region_law ((refine step_append_ints (by rfl) _ _ (by rfl) w.heap.size (by rfl) (Own.ext HO10.out HX10.out) (by rfl) (IntS.ext (one_int w10 (7680 + (k : Int))) (Ext.refl _).drew_) (by omega) (by simp; omega) ?_
                           intro A11 c11 w11 hown11 hgr11 hat11
                           obtain ⟨M11, hu11⟩ := RSt.push10 (HU10.out.ext_ HX10.out HGT.out htl) hown11 hgr11 hat11 HGT.out htl (Nat.le_refl _) hw0
                           have HU11 := Lib.hid hu11
                           obtain ⟨hc11, hf11⟩ := DSt.tcell (HU10.out.ext_ HX10.out HGT.out htl).st hgr11 (.inr rfl) htl 10
                           have hc11' := hc11.trans (HU10.out.ext_ HX10.out HGT.out htl).st.v10
                           have hz11 := Nat.le_trans (Ext.b HX10.out).size hgr11.size
                           clear hown11 hgr11 hat11 hu11 hc11))
           all_goals
            go_wp2_with fail
            go_meet
            case rel => exact ⟨rfl, M11, A11, _, c11, HU11.out, by simpa using hz11⟩
         case rest =>
          obtain ⟨rfl, M12, A12, n12, c12, hu12, hz12⟩ := hcut
          obtain ⟨w12, rfl⟩ : ∃ w12 : World, w12 = wc := ⟨_, rfl⟩
          have HU12 := Lib.hid hu12
          clear hu12 HU10
          have hm0 := HU12.out.m0
          have hm1 := HU12.out.m1
          have hv9 := HU12.out.st.v9
          have hto : 0 < n4 := by
           have h1 := (OwnI.ints HU12.out.own).len.1
           have h2 := decSeq_pos k r0.tail
           rw [HQ0.out] at h2
           omega
          obtain ⟨p4, hA4⟩ := Own.some_ HU12.out.own hto
          have HA4 := Lib.hid hA4
          subst hA4
          have hXC : Ext w12 (w12.alloc (.cells #[.int .i64 (7680 + (k : Int)), .slice (some ⟨p4, 0, none⟩) n4 c4] 74)).drew := ((Ext.refl _).alloc_ _).drew_
          have HXC := Lib.hid hXC
          have hmC := keep_cell (ext_keep hXC) hm0
          have hmC1 := keep_cell (ext_keep hXC) hm1
          have hvC := keep_cell (ext_keep hXC) hv9
          have HUC := Lib.hid (HU12.out.ext_ hXC HGT.out htl)
          have HLC := Lib.hid (HUC.out.less_ (p := p4) rfl HGT.out htl)
          have hc0 : (w12.alloc (.cells #[.int .i64 (7680 + (k : Int)), .slice (some ⟨p4, 0, none⟩) n4 c4] 74)).drew.cell? ⟨w12.heap.size, 0, none⟩ = some (.int .i64 (7680 + (k : Int))) := World.cell?_alloc_new w12 _ _ 0
          have hc1 : (w12.alloc (.cells #[.int .i64 (7680 + (k : Int)), .slice (some ⟨p4, 0, none⟩) n4 c4] 74)).drew.cell? ⟨w12.heap.size, 1, none⟩ = some (.slice (some ⟨p4, 0, none⟩) n4 c4) := World.cell?_alloc_new w12 _ _ 1
          have HC0 := Lib.hid hc0
          have HC1 := Lib.hid hc1
          clear hXC hc0 hc1
          have hle4 : D.dec.length ≤ 5 := by omega
          have HEX : Hid ((if b = true then D.exc ++ [7680 + (k : Int)] else D.exc).length ≤ k + 1) := Lib.hid (by cases b <;> simp <;> omega)
          go_wp2_with fail
          go_region_law ((refine step_append_map (by rfl) _ _ (by rfl) (M12.filter (· ≠ p4)) w.heap.size (by rfl) HLC.out.o9 (by rfl) HC0.out HC1.out (HUC.out.seq (p := p4) rfl) HLC.out.h9 (by omega) (by simp; omega) ?_
                          intro A13 c13 w13 hown13 hgr13 hat13
                          obtain ⟨M13, hu13⟩ := RSt.push9 HUC.out (p := p4) rfl hown13 hgr13 hat13 HGT.out htl (Nat.le_refl _) hw0
                          have HU13 := Lib.hid hu13
                          obtain ⟨hc13, hf13⟩ := DSt.tcell HUC.out.st hgr13 (.inl rfl) htl 9
                          have hc13' := hc13.trans HUC.out.st.v9
                          have hz13 := Nat.le_trans (Ext.b HXC.out).size hgr13.size
                          clear hown13 hgr13 hat13 hu13 hc13))
          all_goals
           go_wp2_with fail
           go_roundg gk'
           case measure => omega
           case rel => exact ⟨k + 1, M13, A13, _, c13, A12, n12, c12, _, q.2.tail, by omega, by go_num, HU13.out, Lib.hid (by rw [HR1.out, HQ.out, HT0.out, HB.out]), by simp; omega, HEX.out, by simp; omega⟩
  ·obtain rfl : gk = 0 := by omega
   obtain rfl : k = 5 := by omega
   go_wp2_with fail
   go_end0
   exact ⟨rfl, M, A9, n9, c9, A10, n10, c10, by rw [HR.out]; exact HST.out⟩
end Go.Proofs.YtbdabjhankgcmaaGreatDoor
