/- Walk: keep.Other, more of its cases. (By program: ot_gen.py.). Walk: keep.Other, more of its cases. (By program: ot_gen.py.). Walk: keep.Other, more of its cases. (By program: ot_gen.py.). Walk: keep.Other, more of its cases. (By program: ot_gen.py.). -/
import Derived.Test.YtbdabjhankgcmaaGreatDoorOt
import Derived.Deep.RegionLaw
import Derived.Deep.CutRange
import Derived.Laws.Tables
import Derived.Laws.Rows
import Derived.Deep.MidRow
namespace Go.Proofs.YtbdabjhankgcmaaGreatDoor
open Go.RowKit
set_option maxHeartbeats 12800000 in
set_option maxRecDepth 100000 in
theorem other_k3 (t : TV) (T : Tbl) (how q v : Int) (w : World) (ht : TblS w t T) (hs : Small T) (hk : pickV how 12 = (3 : Nat)) :
  Calls Tryz.prog 21 #[t.v, .int .i64 how, .int .i64 q, .int .i64 v] w (OtherPost w) := by
 have HK := Lib.hid hk
 have HG := Lib.hid ht.glob
 have HSM := Lib.hid hs
 obtain ⟨w3, hw3, z3, HB3, HT3, H4, H9, HF, HR⟩ := oth_pre ht
 clear hk ht hs
 go_enter Tryz.func21, Tryz.ntmps21
 go_wp2_with fail
 refine (kpick_spec how 12 (by decide) (by decide) _).mono ?_
 rintro e w' ⟨rfl, rfl⟩
 rw [HK.out, ← hw3]
 clear hw3
 have r4 := H4.out w3 (Ext.refl _)
 have hv2 := pickV_bd q (n := 2) (by decide)
 obtain ⟨p, hp⟩ : ∃ p : Nat, pickV q 2 = p := ⟨(pickV q 2).toNat, by omega⟩
 have hp2 : p < 2 := by omega
 have HP := Lib.hid hp
 clear hv2 hp
 match p, hp2 with
 | 0, _ =>
  go_upto_region 28 with (first
   | (at_builtin
      refine wpList_copy_mps rfl _ _ rfl w3.heap.size rfl rfl HT3.out.dec (by have h1 : t.s9.n = T.dec.length := HT3.out.dec.1.1; have h2 := HSM.out.dec; omega) (Nat.le_refl _) ?_
      intro A4 c4 w4 hown4 hgr4 hbl4
      have HX4 : Hid (Ext w3 w4) := Lib.hid (ext_of_grown (Ext.refl _) hgr4 (by intro k hk; cases hk))
      have HO4 := Lib.hid hown4
      have hz4 : w3.heap.size ≤ w4.heap.size := HX4.out.b.size
      have HL4 := Lib.hid hbl4
      clear hbl4
      clear hown4 hgr4)
   | (at_builtin
      refine wpList_append_lit1 rfl _ _ rfl (blkOf A4).toList w3.heap.size rfl rfl (by simp) (own_alloc HO4.out _) (IntS.hide_ (IntS.take (m := 1) (ints_at (by simp) [_, 769] _ (by simp [maxLen])) (by simp)) (fun h => by have h1 := HL4.out _ h; omega)) (fun b hb => by simp [hb]) (by have h1 : t.s9.n = T.dec.length := HT3.out.dec.1.1; have h2 := HSM.out.dec; omega) (by have h1 := hz4; simp; omega) ?_
      intro A5 c5 w5 M5 L5 hown5 hgr5
      have HX5 : Hid (Ext w3 w5) := Lib.hid (ext_of_grown (Ext.alloc_ (Ext.alloc_ HX4.out _) _) hgr5 (fun k hk => (HO4.out.lt k hk).1))
      have HO5 := Lib.hid hown5
      have g9 : w5.cell? ⟨w.heap.size + 2, 9, none⟩ = some (.slice t.s9.a t.s9.n t.s9.c) := (H9.out w5 HX5.out 9).trans rfl
      have gf9 := HF.out w5 HX5.out 9
      clear hown5 hgr5)
   | (go_at_call 15; refine (kpick_spec _ _ (by decide) (by decide) _).mono ?_; rintro e w' ⟨rfl, rfl⟩; try rw [HP.out]))
  all_goals
   obtain ⟨hrg, hr6, hTF, hxF⟩ := oth_end (f := 9) (t := t) (t' := { t with s9 := ⟨A5, _, c5⟩ }) (T' := { T with dec := L5 }) H9.out HR.out HB3.out HX5.out HG.out { (HT3.out.ext_ HX5.out) with dec := OwnMp.maps0 HO5.out } rfl rfl (fun k hk => by
    match k with
    | 0 | 1 | 2 | 3 | 4 | 5 | 6 | 7 | 8 | 10 | 11 => rfl
    | 9 => exact absurd rfl hk
    | k + 12 => rfl)
   have HRG := Lib.hid hrg
   have HR6 := Lib.hid hr6
   have HTF := Lib.hid hTF
   have HXF := Lib.hid hxF
   clear hrg hr6 hTF hxF
   refine wp_region_lit ?_
   refine wpList_load_mid rfl _ _ rfl (w.heap.size + 2) 0 rfl _ _ HRG.out Tryz.underlying26 rfl (by kernel_rfl) ?_
   refine wpList_store_row rfl _ _ _ rfl (w.heap.size + 1) _ rfl rfl 26 nil12 HR6.out (by kernel_rfl) rfl (tv_all { t with s9 := ⟨A5, _, c5⟩ }) ?_
   go_wp2_with fail
   refine bodyPost_ret (v := TV.v { t with s9 := ⟨A5, _, c5⟩ }) (results_cell_row (p := 8) (ty := 26) (by kernel_rfl) _ _ (w.heap.size + 1) 26 _ (0, 0) _ (by first | rfl | simp [Act.put]) (setRow_heap _ _ _ _ _ _ HR6.out) Tryz.underlying26 rfl (by kernel_rfl)) rfl ⟨_, _, rfl, HTF.out, HXF.out⟩
 | 1, _ =>
  go_upto_region 28 with (first
   | (at_builtin
      refine wpList_copy_mps rfl _ _ rfl w3.heap.size rfl rfl HT3.out.dec (by have h1 : t.s9.n = T.dec.length := HT3.out.dec.1.1; have h2 := HSM.out.dec; omega) (Nat.le_refl _) ?_
      intro A4 c4 w4 hown4 hgr4 hbl4
      have HX4 : Hid (Ext w3 w4) := Lib.hid (ext_of_grown (Ext.refl _) hgr4 (by intro k hk; cases hk))
      have HO4 := Lib.hid hown4
      have hz4 : w3.heap.size ≤ w4.heap.size := HX4.out.b.size
      have HL4 := Lib.hid hbl4
      clear hbl4
      clear hown4 hgr4)
   | (at_builtin
      refine wpList_append_lit1 rfl _ _ rfl (blkOf A4).toList w3.heap.size rfl rfl (by simp) (own_alloc HO4.out _) (IntS.hide_ (IntS.take (m := 2) (ints_at (by simp) [_, 769] _ (by simp [maxLen])) (by simp)) (fun h => by have h1 := HL4.out _ h; omega)) (fun b hb => by simp [hb]) (by have h1 : t.s9.n = T.dec.length := HT3.out.dec.1.1; have h2 := HSM.out.dec; omega) (by have h1 := hz4; simp; omega) ?_
      intro A5 c5 w5 M5 L5 hown5 hgr5
      have HX5 : Hid (Ext w3 w5) := Lib.hid (ext_of_grown (Ext.alloc_ (Ext.alloc_ HX4.out _) _) hgr5 (fun k hk => (HO4.out.lt k hk).1))
      have HO5 := Lib.hid hown5
      have g9 : w5.cell? ⟨w.heap.size + 2, 9, none⟩ = some (.slice t.s9.a t.s9.n t.s9.c) := (H9.out w5 HX5.out 9).trans rfl
      have gf9 := HF.out w5 HX5.out 9
      clear hown5 hgr5)
   | (go_at_call 15; refine (kpick_spec _ _ (by decide) (by decide) _).mono ?_; rintro e w' ⟨rfl, rfl⟩; try rw [HP.out]))
  all_goals
   obtain ⟨hrg, hr6, hTF, hxF⟩ := oth_end (f := 9) (t := t) (t' := { t with s9 := ⟨A5, _, c5⟩ }) (T' := { T with dec := L5 }) H9.out HR.out HB3.out HX5.out HG.out { (HT3.out.ext_ HX5.out) with dec := OwnMp.maps0 HO5.out } rfl rfl (fun k hk => by
    match k with
    | 0 | 1 | 2 | 3 | 4 | 5 | 6 | 7 | 8 | 10 | 11 => rfl
    | 9 => exact absurd rfl hk
    | k + 12 => rfl)
   have HRG := Lib.hid hrg
   have HR6 := Lib.hid hr6
   have HTF := Lib.hid hTF
   have HXF := Lib.hid hxF
   clear hrg hr6 hTF hxF
   refine wp_region_lit ?_
   refine wpList_load_mid rfl _ _ rfl (w.heap.size + 2) 0 rfl _ _ HRG.out Tryz.underlying26 rfl (by kernel_rfl) ?_
   refine wpList_store_row rfl _ _ _ rfl (w.heap.size + 1) _ rfl rfl 26 nil12 HR6.out (by kernel_rfl) rfl (tv_all { t with s9 := ⟨A5, _, c5⟩ }) ?_
   go_wp2_with fail
   refine bodyPost_ret (v := TV.v { t with s9 := ⟨A5, _, c5⟩ }) (results_cell_row (p := 8) (ty := 26) (by kernel_rfl) _ _ (w.heap.size + 1) 26 _ (0, 0) _ (by first | rfl | simp [Act.put]) (setRow_heap _ _ _ _ _ _ HR6.out) Tryz.underlying26 rfl (by kernel_rfl)) rfl ⟨_, _, rfl, HTF.out, HXF.out⟩
set_option maxHeartbeats 12800000 in
set_option maxRecDepth 100000 in
theorem other_k4 (t : TV) (T : Tbl) (how q v : Int) (w : World) (ht : TblS w t T) (hs : Small T) (hk : pickV how 12 = (4 : Nat)) :
  Calls Tryz.prog 21 #[t.v, .int .i64 how, .int .i64 q, .int .i64 v] w (OtherPost w) := by
 have HK := Lib.hid hk
 have HG := Lib.hid ht.glob
 have HSM := Lib.hid hs
 obtain ⟨w3, hw3, z3, HB3, HT3, H4, H9, HF, HR⟩ := oth_pre ht
 clear hk ht hs
 go_enter Tryz.func21, Tryz.ntmps21
 go_wp2_with fail
 refine (kpick_spec how 12 (by decide) (by decide) _).mono ?_
 rintro e w' ⟨rfl, rfl⟩
 rw [HK.out, ← hw3]
 clear hw3
 have r4 := H4.out w3 (Ext.refl _)
 have hv6 := pickV_bd v (n := 6) (by decide)
 obtain ⟨p, hp⟩ : ∃ p : Nat, pickV v 6 = p := ⟨(pickV v 6).toNat, by omega⟩
 have hp4 : p < 6 := by omega
 have HP := Lib.hid hp
 have hp0 : (0 : Int) ≤ (p : Int) := Int.natCast_nonneg _
 have hp1 : (p : Int) < 6 := by omega
 obtain ⟨y, hy⟩ : ∃ y, ([131072, 46, 44032, 4449, 55296, 97] : List Int).getD p 0 = y := ⟨_, rfl⟩
 have HC : Hid (∀ w' : World, (w'.alloc (.cells #[.int .i64 131072, .int .i64 46, .int .i64 44032, .int .i64 4449, .int .i64 55296, .int .i64 97] 3)).cell? ⟨w'.heap.size, p, none⟩ = some (.int .i64 y)) := Lib.hid (fun w' => by
  rw [World.cell?_alloc_new, ← hy]
  match p, hp4 with
  | 0, _ | 1, _ | 2, _ | 3, _ | 4, _ | 5, _ => rfl)
 clear hv6 hp hy
 go_upto_region 28 with (first
  | (at_builtin
     refine wpList_copy_mps rfl _ _ rfl w3.heap.size rfl rfl HT3.out.dec (by have h1 : t.s9.n = T.dec.length := HT3.out.dec.1.1; have h2 := HSM.out.dec; omega) (Nat.le_refl _) ?_
     intro A4 c4 w4 hown4 hgr4 hbl4
     have HX4 : Hid (Ext w3 w4) := Lib.hid (ext_of_grown (Ext.refl _) hgr4 (by intro k hk; cases hk))
     have HO4 := Lib.hid hown4
     have hz4 : w3.heap.size ≤ w4.heap.size := HX4.out.b.size
     have HL4 := Lib.hid hbl4
     clear hbl4
     clear hown4 hgr4)
  | (at_builtin
     refine wpList_append_lit1 rfl _ _ rfl (blkOf A4).toList w3.heap.size rfl rfl (by simp) (own_alloc (own_alloc HO4.out _) _) (IntS.hide_ (one_int' (by simp) _) (fun h => by have h1 := HL4.out _ h; omega)) (fun b hb => by simp [hb]) (by have h1 : t.s9.n = T.dec.length := HT3.out.dec.1.1; have h2 := HSM.out.dec; omega) (by have h1 := hz4; simp; omega) ?_
     intro A5 c5 w5 M5 L5 hown5 hgr5
     have HX5 : Hid (Ext w3 w5) := Lib.hid (ext_of_grown (Ext.alloc_ (Ext.alloc_ (Ext.alloc_ HX4.out _) _) _) hgr5 (fun k hk => (HO4.out.lt k hk).1))
     have HO5 := Lib.hid hown5
     have g9 : w5.cell? ⟨w.heap.size + 2, 9, none⟩ = some (.slice t.s9.a t.s9.n t.s9.c) := (H9.out w5 HX5.out 9).trans rfl
     have gf9 := HF.out w5 HX5.out 9
     clear hown5 hgr5)
  | (go_at_call 15; refine (kpick_spec _ _ (by decide) (by decide) _).mono ?_; rintro e w' ⟨rfl, rfl⟩; rw [HP.out]; have hc4 := HC.out w4))
 all_goals
  obtain ⟨hrg, hr6, hTF, hxF⟩ := oth_end (f := 9) (t := t) (t' := { t with s9 := ⟨A5, _, c5⟩ }) (T' := { T with dec := L5 }) H9.out HR.out HB3.out HX5.out HG.out { (HT3.out.ext_ HX5.out) with dec := OwnMp.maps0 HO5.out } rfl rfl (fun k hk => by
   match k with
   | 0 | 1 | 2 | 3 | 4 | 5 | 6 | 7 | 8 | 10 | 11 => rfl
   | 9 => exact absurd rfl hk
   | k + 12 => rfl)
  have HRG := Lib.hid hrg
  have HR6 := Lib.hid hr6
  have HTF := Lib.hid hTF
  have HXF := Lib.hid hxF
  clear hrg hr6 hTF hxF
  refine wp_region_lit ?_
  refine wpList_load_mid rfl _ _ rfl (w.heap.size + 2) 0 rfl _ _ HRG.out Tryz.underlying26 rfl (by kernel_rfl) ?_
  refine wpList_store_row rfl _ _ _ rfl (w.heap.size + 1) _ rfl rfl 26 nil12 HR6.out (by kernel_rfl) rfl (tv_all { t with s9 := ⟨A5, _, c5⟩ }) ?_
  go_wp2_with fail
  refine bodyPost_ret (v := TV.v { t with s9 := ⟨A5, _, c5⟩ }) (results_cell_row (p := 8) (ty := 26) (by kernel_rfl) _ _ (w.heap.size + 1) 26 _ (0, 0) _ (by first | rfl | simp [Act.put]) (setRow_heap _ _ _ _ _ _ HR6.out) Tryz.underlying26 rfl (by kernel_rfl)) rfl ⟨_, _, rfl, HTF.out, HXF.out⟩
set_option maxHeartbeats 12800000 in
set_option maxRecDepth 100000 in
theorem other_k6 (t : TV) (T : Tbl) (how q v : Int) (w : World) (ht : TblS w t T) (hs : Small T) (hk : pickV how 12 = (6 : Nat)) :
  Calls Tryz.prog 21 #[t.v, .int .i64 how, .int .i64 q, .int .i64 v] w (OtherPost w) := by
 have HK := Lib.hid hk
 have HG := Lib.hid ht.glob
 have HSM := Lib.hid hs
 obtain ⟨w3, hw3, z3, HB3, HT3, H4, H9, HF, HR⟩ := oth_pre ht
 clear hk ht hs
 go_enter Tryz.func21, Tryz.ntmps21
 go_wp2_with fail
 refine (kpick_spec how 12 (by decide) (by decide) _).mono ?_
 rintro e w' ⟨rfl, rfl⟩
 rw [HK.out, ← hw3]
 clear hw3
 have r4 := H4.out w3 (Ext.refl _)
 have hv6 := pickV_bd v (n := 6) (by decide)
 obtain ⟨p, hp⟩ : ∃ p : Nat, pickV v 6 = p := ⟨(pickV v 6).toNat, by omega⟩
 have hp4 : p < 6 := by omega
 have HP := Lib.hid hp
 have hp0 : (0 : Int) ≤ (p : Int) := Int.natCast_nonneg _
 have hp1 : (p : Int) < 6 := by omega
 obtain ⟨y, hy⟩ : ∃ y, ([7680, 109, 44032, 131072, 122, 173] : List Int).getD p 0 = y := ⟨_, rfl⟩
 have HC : Hid (∀ w' : World, (w'.alloc (.cells #[.int .i64 7680, .int .i64 109, .int .i64 44032, .int .i64 131072, .int .i64 122, .int .i64 173] 3)).cell? ⟨w'.heap.size, p, none⟩ = some (.int .i64 y)) := Lib.hid (fun w' => by
  rw [World.cell?_alloc_new, ← hy]
  match p, hp4 with
  | 0, _ | 1, _ | 2, _ | 3, _ | 4, _ | 5, _ => rfl)
 clear hv6 hp hy
 go_upto_region 28 with (first
  | (at_builtin
     refine wpList_copy_mps rfl _ _ rfl w3.heap.size rfl rfl HT3.out.pro (by have h1 : t.s11.n = T.pro.length := HT3.out.pro.1.1; have h2 := HSM.out.pro; omega) (Nat.le_refl _) ?_
     intro A4 c4 w4 hown4 hgr4 hbl4
     have HX4 : Hid (Ext w3 w4) := Lib.hid (ext_of_grown (Ext.refl _) hgr4 (by intro k hk; cases hk))
     have HO4 := Lib.hid hown4
     have hz4 : w3.heap.size ≤ w4.heap.size := HX4.out.b.size
     have HL4 := Lib.hid hbl4
     clear hbl4
     clear hown4 hgr4)
  | (at_builtin
     refine wpList_append_lit1 rfl _ _ rfl (blkOf A4).toList w3.heap.size rfl rfl (by simp) (own_alloc (own_alloc HO4.out _) _) (IntS.hide_ (one_int' (by simp) _) (fun h => by have h1 := HL4.out _ h; omega)) (fun b hb => by simp [hb]) (by have h1 : t.s11.n = T.pro.length := HT3.out.pro.1.1; have h2 := HSM.out.pro; omega) (by have h1 := hz4; simp; omega) ?_
     intro A5 c5 w5 M5 L5 hown5 hgr5
     have HX5 : Hid (Ext w3 w5) := Lib.hid (ext_of_grown (Ext.alloc_ (Ext.alloc_ (Ext.alloc_ HX4.out _) _) _) hgr5 (fun k hk => (HO4.out.lt k hk).1))
     have HO5 := Lib.hid hown5
     have g9 : w5.cell? ⟨w.heap.size + 2, 11, none⟩ = some (.slice t.s11.a t.s11.n t.s11.c) := (H9.out w5 HX5.out 11).trans rfl
     have gf9 := HF.out w5 HX5.out 11
     clear hown5 hgr5)
  | (go_at_call 15; refine (kpick_spec _ _ (by decide) (by decide) _).mono ?_; rintro e w' ⟨rfl, rfl⟩; rw [HP.out]; have hc4 := HC.out w4))
 all_goals
  obtain ⟨hrg, hr6, hTF, hxF⟩ := oth_end (f := 11) (t := t) (t' := { t with s11 := ⟨A5, _, c5⟩ }) (T' := { T with pro := L5 }) H9.out HR.out HB3.out HX5.out HG.out { (HT3.out.ext_ HX5.out) with pro := OwnMp.maps0 HO5.out } rfl rfl (fun k hk => by
   match k with
   | 0 | 1 | 2 | 3 | 4 | 5 | 6 | 7 | 8 | 9 | 10 => rfl
   | 11 => exact absurd rfl hk
   | k + 12 => rfl)
  have HRG := Lib.hid hrg
  have HR6 := Lib.hid hr6
  have HTF := Lib.hid hTF
  have HXF := Lib.hid hxF
  clear hrg hr6 hTF hxF
  refine wp_region_lit ?_
  refine wpList_load_mid rfl _ _ rfl (w.heap.size + 2) 0 rfl _ _ HRG.out Tryz.underlying26 rfl (by kernel_rfl) ?_
  refine wpList_store_row rfl _ _ _ rfl (w.heap.size + 1) _ rfl rfl 26 nil12 HR6.out (by kernel_rfl) rfl (tv_all { t with s11 := ⟨A5, _, c5⟩ }) ?_
  go_wp2_with fail
  refine bodyPost_ret (v := TV.v { t with s11 := ⟨A5, _, c5⟩ }) (results_cell_row (p := 8) (ty := 26) (by kernel_rfl) _ _ (w.heap.size + 1) 26 _ (0, 0) _ (by first | rfl | simp [Act.put]) (setRow_heap _ _ _ _ _ _ HR6.out) Tryz.underlying26 rfl (by kernel_rfl)) rfl ⟨_, _, rfl, HTF.out, HXF.out⟩
end Go.Proofs.YtbdabjhankgcmaaGreatDoor
namespace Go.Proofs.YtbdabjhankgcmaaGreatDoor
open Go.RowKit
set_option maxHeartbeats 12800000 in
set_option maxRecDepth 100000 in
theorem other_k7 (t : TV) (T : Tbl) (how q v : Int) (w : World) (ht : TblS w t T) (hs : Small T) (hk : pickV how 12 = (7 : Nat)) :
  Calls Tryz.prog 21 #[t.v, .int .i64 how, .int .i64 q, .int .i64 v] w (OtherPost w) := by
 have HK := Lib.hid hk
 have HG := Lib.hid ht.glob
 have HSM := Lib.hid hs
 obtain ⟨w3, hw3, z3, HB3, HT3, H4, H9, HF, HR⟩ := oth_pre ht
 clear hk ht hs
 go_enter Tryz.func21, Tryz.ntmps21
 go_wp2_with fail
 refine (kpick_spec how 12 (by decide) (by decide) _).mono ?_
 rintro e w' ⟨rfl, rfl⟩
 rw [HK.out, ← hw3]
 clear hw3
 have r4 := H4.out w3 (Ext.refl _)
 go_upto_region 28 with (first
  | (at_builtin
     refine wpList_copy_mps rfl _ _ rfl w3.heap.size rfl rfl HT3.out.mps (by have h1 : t.s8.n = T.mps.length := HT3.out.mps.1.1; have h2 := HSM.out.mps; omega) (Nat.le_refl _) ?_
     intro A4 c4 w4 hown4 hgr4 hbl4
     have HX4 : Hid (Ext w3 w4) := Lib.hid (ext_of_grown (Ext.refl _) hgr4 (by intro k hk; cases hk))
     have HO4 := Lib.hid hown4
     have hz4 : w3.heap.size ≤ w4.heap.size := HX4.out.b.size
     have HL4 := Lib.hid hbl4
     clear hbl4
     clear hown4 hgr4)
  | (at_builtin
     refine wpList_append_lit1 rfl _ _ rfl (blkOf A4).toList w3.heap.size rfl rfl (by simp) (own_alloc HO4.out _) (IntS.hide_ (one_int' (by simp) _) (fun h => by have h1 := HL4.out _ h; omega)) (fun b hb => by simp [hb]) (by have h1 : t.s8.n = T.mps.length := HT3.out.mps.1.1; have h2 := HSM.out.mps; omega) (by have h1 := hz4; simp; omega) ?_
     intro A5 c5 w5 M5 L5 hown5 hgr5
     have HX5 : Hid (Ext w3 w5) := Lib.hid (ext_of_grown (Ext.alloc_ (Ext.alloc_ HX4.out _) _) hgr5 (fun k hk => (HO4.out.lt k hk).1))
     have HO5 := Lib.hid hown5
     have g9 : w5.cell? ⟨w.heap.size + 2, 8, none⟩ = some (.slice t.s8.a t.s8.n t.s8.c) := (H9.out w5 HX5.out 8).trans rfl
     have gf9 := HF.out w5 HX5.out 8
     clear hown5 hgr5))
 all_goals
  obtain ⟨hrg, hr6, hTF, hxF⟩ := oth_end (f := 8) (t := t) (t' := { t with s8 := ⟨A5, _, c5⟩ }) (T' := { T with mps := L5 }) H9.out HR.out HB3.out HX5.out HG.out { (HT3.out.ext_ HX5.out) with mps := OwnMp.maps0 HO5.out } rfl rfl (fun k hk => by
   match k with
   | 0 | 1 | 2 | 3 | 4 | 5 | 6 | 7 | 9 | 10 | 11 => rfl
   | 8 => exact absurd rfl hk
   | k + 12 => rfl)
  have HRG := Lib.hid hrg
  have HR6 := Lib.hid hr6
  have HTF := Lib.hid hTF
  have HXF := Lib.hid hxF
  clear hrg hr6 hTF hxF
  refine wp_region_lit ?_
  refine wpList_load_mid rfl _ _ rfl (w.heap.size + 2) 0 rfl _ _ HRG.out Tryz.underlying26 rfl (by kernel_rfl) ?_
  refine wpList_store_row rfl _ _ _ rfl (w.heap.size + 1) _ rfl rfl 26 nil12 HR6.out (by kernel_rfl) rfl (tv_all { t with s8 := ⟨A5, _, c5⟩ }) ?_
  go_wp2_with fail
  refine bodyPost_ret (v := TV.v { t with s8 := ⟨A5, _, c5⟩ }) (results_cell_row (p := 8) (ty := 26) (by kernel_rfl) _ _ (w.heap.size + 1) 26 _ (0, 0) _ (by first | rfl | simp [Act.put]) (setRow_heap _ _ _ _ _ _ HR6.out) Tryz.underlying26 rfl (by kernel_rfl)) rfl ⟨_, _, rfl, HTF.out, HXF.out⟩
set_option maxHeartbeats 12800000 in
set_option maxRecDepth 100000 in
theorem other_k8 (t : TV) (T : Tbl) (how q v : Int) (w : World) (ht : TblS w t T) (hs : Small T) (hk : pickV how 12 = (8 : Nat)) :
  Calls Tryz.prog 21 #[t.v, .int .i64 how, .int .i64 q, .int .i64 v] w (OtherPost w) := by
 have HK := Lib.hid hk
 have HG := Lib.hid ht.glob
 have HSM := Lib.hid hs
 obtain ⟨w3, hw3, z3, HB3, HT3, H4, H9, HF, HR⟩ := oth_pre ht
 clear hk ht hs
 go_enter Tryz.func21, Tryz.ntmps21
 go_wp2_with fail
 refine (kpick_spec how 12 (by decide) (by decide) _).mono ?_
 rintro e w' ⟨rfl, rfl⟩
 rw [HK.out, ← hw3]
 clear hw3
 have r4 := H4.out w3 (Ext.refl _)
 have hv5 := pickV_bd v (n := 5) (by decide)
 obtain ⟨p, hp⟩ : ∃ p : Nat, pickV v 5 = p := ⟨(pickV v 5).toNat, by omega⟩
 have hp4 : p < 5 := by omega
 have HP := Lib.hid hp
 have hp0 : (0 : Int) ≤ (p : Int) := Int.natCast_nonneg _
 have hp1 : (p : Int) < 5 := by omega
 obtain ⟨y, hy⟩ : ∃ y, ([2, 3, 4, 60, 61] : List Int).getD p 0 = y := ⟨_, rfl⟩
 have HC : Hid (∀ w' : World, (w'.alloc (.cells #[.int .i64 2, .int .i64 3, .int .i64 4, .int .i64 60, .int .i64 61] 3)).cell? ⟨w'.heap.size, p, none⟩ = some (.int .i64 y)) := Lib.hid (fun w' => by
  rw [World.cell?_alloc_new, ← hy]
  match p, hp4 with
  | 0, _ | 1, _ | 2, _ | 3, _ | 4, _ => rfl)
 clear hv5 hp hy
 go_upto_region 28 with (first
  | (at_builtin
     refine wpList_copy_mps rfl _ _ rfl w3.heap.size rfl rfl HT3.out.ext (by have h1 : t.s7.n = T.ext.length := HT3.out.ext.1.1; have h2 := HSM.out.ext; omega) (Nat.le_refl _) ?_
     intro A4 c4 w4 hown4 hgr4 hbl4
     have HX4 : Hid (Ext w3 w4) := Lib.hid (ext_of_grown (Ext.refl _) hgr4 (by intro k hk; cases hk))
     have HO4 := Lib.hid hown4
     have hz4 : w3.heap.size ≤ w4.heap.size := HX4.out.b.size
     have HL4 := Lib.hid hbl4
     clear hbl4
     clear hown4 hgr4)
  | (at_builtin
     refine wpList_append_lit1 rfl _ _ rfl (blkOf A4).toList w3.heap.size rfl rfl (by simp) (own_alloc (own_alloc HO4.out _) _) (IntS.hide_ (ints_at (by simp) [3, y] _ (by simp [maxLen])) (fun h => by have h1 := HL4.out _ h; omega)) (fun b hb => by simp [hb]) (by have h1 : t.s7.n = T.ext.length := HT3.out.ext.1.1; have h2 := HSM.out.ext; omega) (by have h1 := hz4; simp; omega) ?_
     intro A5 c5 w5 M5 L5 hown5 hgr5
     have HX5 : Hid (Ext w3 w5) := Lib.hid (ext_of_grown (Ext.alloc_ (Ext.alloc_ (Ext.alloc_ HX4.out _) _) _) hgr5 (fun k hk => (HO4.out.lt k hk).1))
     have HO5 := Lib.hid hown5
     have g9 : w5.cell? ⟨w.heap.size + 2, 7, none⟩ = some (.slice t.s7.a t.s7.n t.s7.c) := (H9.out w5 HX5.out 7).trans rfl
     have gf9 := HF.out w5 HX5.out 7
     clear hown5 hgr5)
  | (go_at_call 15; refine (kpick_spec _ _ (by decide) (by decide) _).mono ?_; rintro e w' ⟨rfl, rfl⟩; rw [HP.out]; have hc4 := HC.out w4))
 all_goals
  obtain ⟨hrg, hr6, hTF, hxF⟩ := oth_end (f := 7) (t := t) (t' := { t with s7 := ⟨A5, _, c5⟩ }) (T' := { T with ext := L5 }) H9.out HR.out HB3.out HX5.out HG.out { (HT3.out.ext_ HX5.out) with ext := OwnMp.maps0 HO5.out } rfl rfl (fun k hk => by
   match k with
   | 0 | 1 | 2 | 3 | 4 | 5 | 6 | 8 | 9 | 10 | 11 => rfl
   | 7 => exact absurd rfl hk
   | k + 12 => rfl)
  have HRG := Lib.hid hrg
  have HR6 := Lib.hid hr6
  have HTF := Lib.hid hTF
  have HXF := Lib.hid hxF
  clear hrg hr6 hTF hxF
  refine wp_region_lit ?_
  refine wpList_load_mid rfl _ _ rfl (w.heap.size + 2) 0 rfl _ _ HRG.out Tryz.underlying26 rfl (by kernel_rfl) ?_
  refine wpList_store_row rfl _ _ _ rfl (w.heap.size + 1) _ rfl rfl 26 nil12 HR6.out (by kernel_rfl) rfl (tv_all { t with s7 := ⟨A5, _, c5⟩ }) ?_
  go_wp2_with fail
  refine bodyPost_ret (v := TV.v { t with s7 := ⟨A5, _, c5⟩ }) (results_cell_row (p := 8) (ty := 26) (by kernel_rfl) _ _ (w.heap.size + 1) 26 _ (0, 0) _ (by first | rfl | simp [Act.put]) (setRow_heap _ _ _ _ _ _ HR6.out) Tryz.underlying26 rfl (by kernel_rfl)) rfl ⟨_, _, rfl, HTF.out, HXF.out⟩
set_option maxHeartbeats 12800000 in
set_option maxRecDepth 100000 in
theorem other_k11 (t : TV) (T : Tbl) (how q v : Int) (w : World) (ht : TblS w t T) (hs : Small T) (hk : pickV how 12 = (11 : Nat)) :
  Calls Tryz.prog 21 #[t.v, .int .i64 how, .int .i64 q, .int .i64 v] w (OtherPost w) := by
 have HK := Lib.hid hk
 have HG := Lib.hid ht.glob
 have HSM := Lib.hid hs
 obtain ⟨w3, hw3, z3, HB3, HT3, H4, H9, HF, HR⟩ := oth_pre ht
 clear hk ht hs
 go_enter Tryz.func21, Tryz.ntmps21
 go_wp2_with fail
 refine (kpick_spec how 12 (by decide) (by decide) _).mono ?_
 rintro e w' ⟨rfl, rfl⟩
 rw [HK.out, ← hw3]
 clear hw3
 have r4 := H4.out w3 (Ext.refl _)
 have hv2 := pickV_bd v (n := 2) (by decide)
 obtain ⟨p, hp⟩ : ∃ p : Nat, pickV v 2 = p := ⟨(pickV v 2).toNat, by omega⟩
 have hp2 : p < 2 := by omega
 have HP := Lib.hid hp
 clear hv2 hp
 match p, hp2 with
 | 0, _ =>
  go_upto_region 28 with (first
   | (at_builtin
      refine wpList_copy_mps rfl _ _ rfl w3.heap.size rfl rfl HT3.out.dec (by have h1 : t.s9.n = T.dec.length := HT3.out.dec.1.1; have h2 := HSM.out.dec; omega) (Nat.le_refl _) ?_
      intro A4 c4 w4 hown4 hgr4 hbl4
      have HX4 : Hid (Ext w3 w4) := Lib.hid (ext_of_grown (Ext.refl _) hgr4 (by intro k hk; cases hk))
      have HO4 := Lib.hid hown4
      have hz4 : w3.heap.size ≤ w4.heap.size := HX4.out.b.size
      have HL4 := Lib.hid hbl4
      clear hbl4
      clear hown4 hgr4)
   | (at_builtin
      refine wpList_append_lit2 rfl _ _ rfl (blkOf A4).toList w3.heap.size rfl rfl (by simp) (own_alloc (own_alloc HO4.out _) _) (ints_alloc (IntS.hide_ (one_int' (by simp) _) (fun h => by have h1 := HL4.out _ h; omega)) _) (IntS.hide_ (ints_at (by simp) [98, 131072] _ (by simp [maxLen])) (fun h => by have h1 := HL4.out _ h; omega)) (fun b hb => by simp [hb]) (by have h1 : t.s9.n = T.dec.length := HT3.out.dec.1.1; have h2 := HSM.out.dec; omega) (by have h1 := hz4; simp; omega) ?_
      intro A5 c5 w5 M5 L5 hown5 hgr5
      have HX5 : Hid (Ext w3 w5) := Lib.hid (ext_of_grown (Ext.alloc_ (Ext.alloc_ (Ext.alloc_ HX4.out _) _) _) hgr5 (fun k hk => (HO4.out.lt k hk).1))
      have HO5 := Lib.hid hown5
      have g9 : w5.cell? ⟨w.heap.size + 2, 9, none⟩ = some (.slice t.s9.a t.s9.n t.s9.c) := (H9.out w5 HX5.out 9).trans rfl
      have gf9 := HF.out w5 HX5.out 9
      clear hown5 hgr5)
   | (go_at_call 15; refine (kpick_spec _ _ (by decide) (by decide) _).mono ?_; rintro e w' ⟨rfl, rfl⟩; rw [HP.out]))
  all_goals
   obtain ⟨hrg, hr6, hTF, hxF⟩ := oth_end (f := 9) (t := t) (t' := { t with s9 := ⟨A5, _, c5⟩ }) (T' := { T with dec := L5 }) H9.out HR.out HB3.out HX5.out HG.out { (HT3.out.ext_ HX5.out) with dec := OwnMp.maps0 HO5.out } rfl rfl (fun k hk => by
    match k with
    | 0 | 1 | 2 | 3 | 4 | 5 | 6 | 7 | 8 | 10 | 11 => rfl
    | 9 => exact absurd rfl hk
    | k + 12 => rfl)
   have HRG := Lib.hid hrg
   have HR6 := Lib.hid hr6
   have HTF := Lib.hid hTF
   have HXF := Lib.hid hxF
   clear hrg hr6 hTF hxF
   refine wp_region_lit ?_
   refine wpList_load_mid rfl _ _ rfl (w.heap.size + 2) 0 rfl _ _ HRG.out Tryz.underlying26 rfl (by kernel_rfl) ?_
   refine wpList_store_row rfl _ _ _ rfl (w.heap.size + 1) _ rfl rfl 26 nil12 HR6.out (by kernel_rfl) rfl (tv_all { t with s9 := ⟨A5, _, c5⟩ }) ?_
   go_wp2_with fail
   refine bodyPost_ret (v := TV.v { t with s9 := ⟨A5, _, c5⟩ }) (results_cell_row (p := 8) (ty := 26) (by kernel_rfl) _ _ (w.heap.size + 1) 26 _ (0, 0) _ (by first | rfl | simp [Act.put]) (setRow_heap _ _ _ _ _ _ HR6.out) Tryz.underlying26 rfl (by kernel_rfl)) rfl ⟨_, _, rfl, HTF.out, HXF.out⟩
 | 1, _ =>
  go_upto_region 28 with (first
   | (at_builtin
      refine wpList_copy_mps rfl _ _ rfl w3.heap.size rfl rfl HT3.out.dec (by have h1 : t.s9.n = T.dec.length := HT3.out.dec.1.1; have h2 := HSM.out.dec; omega) (Nat.le_refl _) ?_
      intro A4 c4 w4 hown4 hgr4 hbl4
      have HX4 : Hid (Ext w3 w4) := Lib.hid (ext_of_grown (Ext.refl _) hgr4 (by intro k hk; cases hk))
      have HO4 := Lib.hid hown4
      have hz4 : w3.heap.size ≤ w4.heap.size := HX4.out.b.size
      have HL4 := Lib.hid hbl4
      clear hbl4
      clear hown4 hgr4)
   | (at_builtin
      refine wpList_append_lit2 rfl _ _ rfl (blkOf A4).toList w3.heap.size rfl rfl (by simp) (own_alloc (own_alloc HO4.out _) _) (ints_alloc (IntS.hide_ (one_int' (by simp) _) (fun h => by have h1 := HL4.out _ h; omega)) _) (IntS.hide_ (IntS.drop1 (ints_at (by simp) [98, 131072] _ (by simp [maxLen])) rfl rfl (by simp)) (fun h => by have h1 := HL4.out _ h; omega)) (fun b hb => by simp [hb]) (by have h1 : t.s9.n = T.dec.length := HT3.out.dec.1.1; have h2 := HSM.out.dec; omega) (by have h1 := hz4; simp; omega) ?_
      intro A5 c5 w5 M5 L5 hown5 hgr5
      have HX5 : Hid (Ext w3 w5) := Lib.hid (ext_of_grown (Ext.alloc_ (Ext.alloc_ (Ext.alloc_ HX4.out _) _) _) hgr5 (fun k hk => (HO4.out.lt k hk).1))
      have HO5 := Lib.hid hown5
      have g9 : w5.cell? ⟨w.heap.size + 2, 9, none⟩ = some (.slice t.s9.a t.s9.n t.s9.c) := (H9.out w5 HX5.out 9).trans rfl
      have gf9 := HF.out w5 HX5.out 9
      clear hown5 hgr5)
   | (go_at_call 15; refine (kpick_spec _ _ (by decide) (by decide) _).mono ?_; rintro e w' ⟨rfl, rfl⟩; rw [HP.out]))
  all_goals
   obtain ⟨hrg, hr6, hTF, hxF⟩ := oth_end (f := 9) (t := t) (t' := { t with s9 := ⟨A5, _, c5⟩ }) (T' := { T with dec := L5 }) H9.out HR.out HB3.out HX5.out HG.out { (HT3.out.ext_ HX5.out) with dec := OwnMp.maps0 HO5.out } rfl rfl (fun k hk => by
    match k with
    | 0 | 1 | 2 | 3 | 4 | 5 | 6 | 7 | 8 | 10 | 11 => rfl
    | 9 => exact absurd rfl hk
    | k + 12 => rfl)
   have HRG := Lib.hid hrg
   have HR6 := Lib.hid hr6
   have HTF := Lib.hid hTF
   have HXF := Lib.hid hxF
   clear hrg hr6 hTF hxF
   refine wp_region_lit ?_
   refine wpList_load_mid rfl _ _ rfl (w.heap.size + 2) 0 rfl _ _ HRG.out Tryz.underlying26 rfl (by kernel_rfl) ?_
   refine wpList_store_row rfl _ _ _ rfl (w.heap.size + 1) _ rfl rfl 26 nil12 HR6.out (by kernel_rfl) rfl (tv_all { t with s9 := ⟨A5, _, c5⟩ }) ?_
   go_wp2_with fail
   refine bodyPost_ret (v := TV.v { t with s9 := ⟨A5, _, c5⟩ }) (results_cell_row (p := 8) (ty := 26) (by kernel_rfl) _ _ (w.heap.size + 1) 26 _ (0, 0) _ (by first | rfl | simp [Act.put]) (setRow_heap _ _ _ _ _ _ HR6.out) Tryz.underlying26 rfl (by kernel_rfl)) rfl ⟨_, _, rfl, HTF.out, HXF.out⟩
end Go.Proofs.YtbdabjhankgcmaaGreatDoor
namespace Go.Proofs.YtbdabjhankgcmaaGreatDoor
open Go.RowKit
theorem own_lit1 (w : World) (base : Nat) (hb : base ≤ w.heap.size) (a b c : Int) : OwnSp (w.alloc (.cells #[.int .i64 a, .int .i64 b, .int .i64 c] 54)) base (some ⟨w.heap.size, 0, none⟩) 1 1 [⟨a, b, c⟩] :=
 World.ownsRow_lit w #[.int .i64 a, .int .i64 b, .int .i64 c] 1 hb (by simp [maxLen]) rfl
set_option maxHeartbeats 12800000 in
set_option maxRecDepth 100000 in
theorem other_k2 (t : TV) (T : Tbl) (how q v : Int) (w : World) (ht : TblS w t T) (hs : Small T) (hk : pickV how 12 = (2 : Nat)) :
  Calls Tryz.prog 21 #[t.v, .int .i64 how, .int .i64 q, .int .i64 v] w (OtherPost w) := by
 have HK := Lib.hid hk
 have HG := Lib.hid ht.glob
 have HSM := Lib.hid hs
 obtain ⟨w3, hw3, z3, HB3, HT3, H4, H9, HF, HR⟩ := oth_pre ht
 clear hk ht hs
 go_enter Tryz.func21, Tryz.ntmps21
 go_wp2_with fail
 refine (kpick_spec how 12 (by decide) (by decide) _).mono ?_
 rintro e w' ⟨rfl, rfl⟩
 rw [HK.out, ← hw3]
 clear hw3
 have r4 := H4.out w3 (Ext.refl _)
 go_upto_region 9 with fail
 refine region_xk [w.heap.size + 2, w3.heap.size] [([0, 2, 6, 7], 1), ([], 3), ([4], 5), ([], 8), ([9], 10)] [] (by kernel_rfl) (by kernel_rfl) ?_
 have HD : Hid (Ext w3 w3.drew) := Lib.hid (Ext.refl _).drew_
 have zD : w3.drew.heap.size = w3.heap.size := rfl
 refine segWK_cons (by repeat (first | exact OpsAre.nil | exact OpAt.zero | apply OpAt.succ | apply OpsAre.cons)) (by repeat (first | exact OpAt.zero | apply OpAt.succ)) ?_
 have rT : ∀ yy : KpW [w.heap.size + 2, w3.heap.size] w3.drew, ∀ k : Nat, yy.w.cell? ⟨w.heap.size, k, none⟩ = t.v.cells[k]? := fun yy k => (yy.h.cell ⟨w.heap.size, k, none⟩ (by show w.heap.size < _; omega) (by simp; omega)).trans (H4.out _ HD.out k)
 repeat (go_big_quiet_step (fail))
 refine wpQuiet_nil ?_
 clear rT
 go_wp2_with fail
 refine (kpick_spec _ _ (by decide) (by decide) _).mono ?_
 rintro e w' ⟨rfl, rfl⟩
 go_wp2_with fail
 refine segKK_mk (Kp.refl _ _) ?_
 refine segWK_cons (by repeat (first | exact OpsAre.nil | exact OpAt.zero | apply OpAt.succ | apply OpsAre.cons)) (by repeat (first | exact OpAt.zero | apply OpAt.succ)) ?_
 refine wpQuiet_nil ?_
 go_wp2_with fail
 refine (kpick_spec _ _ (by decide) (by decide) _).mono ?_
 rintro e w' ⟨rfl, rfl⟩
 go_wp2_with fail
 refine segKK_mk (Kp.refl _ _) ?_
 refine segWK_cons (by repeat (first | exact OpsAre.nil | exact OpAt.zero | apply OpAt.succ | apply OpsAre.cons)) (by repeat (first | exact OpAt.zero | apply OpAt.succ)) ?_
 repeat (go_big_quiet_step (fail))
 refine wpQuiet_nil ?_
 go_wp2_with fail
 refine segKK_mk (Kp.ofExt ((Ext.refl _).alloc_ _)) ?_
 refine segWK_cons (by repeat (first | exact OpsAre.nil | exact OpAt.zero | apply OpAt.succ | apply OpsAre.cons)) (by repeat (first | exact OpAt.zero | apply OpAt.succ)) ?_
 refine wpQuiet_nil ?_
 go_wp2_with (at_builtin
              refine wpList_append_spans rfl _ _ rfl w3.heap.size rfl (show OwnSp _ w3.heap.size (some ⟨w.heap.size + 3, 0, none⟩) 1 1 [⟨pickV v 300, pickV v 300, 1⟩] from by rw [← z3]; exact own_lit1 w3.drew w3.heap.size (Nat.le_refl _) _ _ _) rfl ((HT3.out.ext_ (HD.out.alloc_ _)).cat) (by have h1 : t.s0.n = T.cat.length := HT3.out.cat.1.1; have h2 := HSM.out.cat; omega) (by simp <;> omega) ?_
              intro A5 c5 w5 hown5 hgr5 _
              obtain ⟨L5, hown5⟩ : ∃ L5, OwnSp w5 w3.heap.size A5 _ c5 L5 := ⟨_, hown5⟩
              have HX5 : Hid (Ext w3 w5) := Lib.hid (ext_of_grown (HD.out.alloc_ _) hgr5 (fun k hk => by simp [blkOf] at hk <;> omega))
              have HKX := Lib.hid (Kp.ofGrown (M := [w.heap.size + 2, w.heap.size + 3]) hgr5 (fun k hk => by simp [blkOf] at hk <;> simp [← hk]))
              have HO5 := Lib.hid hown5)
 refine segKK_mk HKX.out ?_
 have g9 : w5.cell? ⟨w.heap.size + 2, 0, none⟩ = some (.slice t.s0.a t.s0.n t.s0.c) := (H9.out w5 HX5.out 0).trans rfl
 have gf9 := HF.out w5 HX5.out 0
 refine segWK_cons (by repeat (first | exact OpsAre.nil | exact OpAt.zero | apply OpAt.succ | apply OpsAre.cons)) (by repeat (first | exact OpAt.zero | apply OpAt.succ)) ?_
 repeat (go_big_quiet_step (fail))
 refine wpQuiet_nil ?_
 go_wp2_with fail
 refine segKK_mk (Kp.setCell _ _ _ _ (by simp)) ?_
 refine segWK_nil (by repeat (first | exact OpsAre.nil | exact OpAt.zero | apply OpAt.succ | apply OpsAre.cons)) ?_
 refine wpQuiet_nil ?_
 go_upto_region 28 with fail
 obtain ⟨hrg, hr6, hTF, hxF⟩ := oth_end (w5 := w5) (f := 0) (t := t) (t' := { t with s0 := ⟨A5, _, c5⟩ }) (T' := { T with cat := L5 }) H9.out HR.out HB3.out HX5.out HG.out { (HT3.out.ext_ HX5.out) with cat := OwnSp.spans HO5.out } rfl rfl (fun k hk => by
  match k with
  | 1 | 2 | 3 | 4 | 5 | 6 | 7 | 8 | 9 | 10 | 11 => rfl
  | 0 => exact absurd rfl hk
  | k + 12 => rfl)
 have HRG := Lib.hid hrg
 have HR6 := Lib.hid hr6
 have HTF := Lib.hid hTF
 have HXF := Lib.hid hxF
 clear hrg hr6 hTF hxF
 refine wp_region_lit ?_
 refine wpList_load_mid rfl _ _ rfl (w.heap.size + 2) 0 rfl _ _ HRG.out Tryz.underlying26 rfl (by kernel_rfl) ?_
 refine wpList_store_row rfl _ _ _ rfl (w.heap.size + 1) _ rfl rfl 26 nil12 HR6.out (by kernel_rfl) rfl (tv_all { t with s0 := ⟨A5, _, c5⟩ }) ?_
 go_wp2_with fail
 refine bodyPost_ret (v := TV.v { t with s0 := ⟨A5, _, c5⟩ }) (results_cell_row (p := 8) (ty := 26) (by kernel_rfl) _ _ (w.heap.size + 1) 26 _ (0, 0) _ (by first | rfl | simp [Act.put]) (setRow_heap _ _ _ _ _ _ HR6.out) Tryz.underlying26 rfl (by kernel_rfl)) rfl ⟨_, _, rfl, HTF.out, HXF.out⟩
end Go.Proofs.YtbdabjhankgcmaaGreatDoor
namespace Go.Proofs.YtbdabjhankgcmaaGreatDoor
open Go.RowKit
theorem spCells_set : ∀ (l : List Sp) (p : Nat) (v : Int) (h : p < l.length), (spCells l).set (p * 3 + 2) (.int .i64 v) = spCells (l.set p ⟨l[p].lo, l[p].hi, v⟩)
 | [], p, v, h => by simp at h
 | s :: r, 0, v, h => rfl
 | s :: r, p + 1, v, h => by
  have ih := spCells_set r p v (by simpa using h)
  have e : (p + 1) * 3 + 2 = p * 3 + 2 + 1 + 1 + 1 := by omega
  rw [e]
  simp only [spCells, List.set_cons_succ, List.getElem_cons_succ, ih]
theorem setCell_comm (w : World) {a b : Addr} (u v : Value) (h : a.block ≠ b.block) : (w.setCell a u).setCell b v = (w.setCell b v).setCell a u := by
 unfold World.setCell
 refine congrArg (fun x => { w with heap := x }) ?_
 apply Array.ext
 ·simp
 ·intro i h1 h2
  simp only [Array.getElem_modify]
  by_cases ha : a.block = i
  ·have hb : ¬b.block = i := fun e => h (ha.trans e.symm)
   simp only [ha, hb, if_true, if_false]
  ·simp only [ha, if_false]
set_option maxHeartbeats 12800000 in
set_option maxRecDepth 100000 in
theorem other_k10 (t : TV) (T : Tbl) (how q v : Int) (w : World) (ht : TblS w t T) (hs : Small T) (hk : pickV how 12 = (10 : Nat)) :
  Calls Tryz.prog 21 #[t.v, .int .i64 how, .int .i64 q, .int .i64 v] w (OtherPost w) := by
 have HK := Lib.hid hk
 have HG := Lib.hid ht.glob
 have HSM := Lib.hid hs
 obtain ⟨w3, hw3, z3, HB3, HT3, H4, H9, HF, HR⟩ := oth_pre ht
 clear hk ht hs
 go_enter Tryz.func21, Tryz.ntmps21
 go_wp2_with fail
 refine (kpick_spec how 12 (by decide) (by decide) _).mono ?_
 rintro e w' ⟨rfl, rfl⟩
 rw [HK.out, ← hw3]
 clear hw3
 have r4 := H4.out w3 (Ext.refl _)
 go_upto_region 26 with (at_builtin
                         refine wpList_copy_spans rfl _ _ rfl w3.heap.size rfl rfl HT3.out.joi (by have h1 : t.s2.n = T.joi.length := HT3.out.joi.1.1; have h2 := HSM.out.joi; omega) (Nat.le_refl _) ?_
                         intro A4 c4 w4 hown4 hgr4
                         have HX4 : Hid (Ext w3 w4) := Lib.hid (ext_of_grown (Ext.refl _) hgr4 (by intro k hk; cases hk))
                         have HO4 := Lib.hid hown4
                         have hz4 : w3.heap.size ≤ w4.heap.size := HX4.out.b.size
                         have g9 : w4.cell? ⟨w.heap.size + 2, 2, none⟩ = some (.slice t.s2.a t.s2.n t.s2.c) := (H9.out w4 HX4.out 2).trans rfl
                         have gf9 := HF.out w4 HX4.out 2
                         clear hown4 hgr4)
 have HN : Hid (t.s2.n = T.joi.length) := Lib.hid HT3.out.joi.1.1
 by_cases hn : t.s2.n = 0
 ·have d1 : decide (0 < t.s2.n) = false := decide_eq_false (by omega)
  have d2 : decide ((0 : Int) < (t.s2.n : Int)) = false := decide_eq_false (by omega)
  obtain ⟨w5, hw5⟩ : ∃ w5, w5 = w4.setCell ⟨w.heap.size + 2, 2, none⟩ (.slice A4 t.s2.n c4) := ⟨_, rfl⟩
  have q9 : w5.cell? ⟨w.heap.size + 2, 2, none⟩ = some (.slice A4 t.s2.n c4) := by rw [hw5]; exact World.cell?_setCell_same _ _ _ g9
  rw [← hw5]
  have HW5 := Lib.hid hw5
  clear g9 gf9 hn hw5
  go_upto_region 28 with fail
  rw [HW5.out]
  clear HW5 q9
  obtain ⟨hrg, hr6, hTF, hxF⟩ := oth_end (w5 := w4) (f := 2) (t := t) (t' := { t with s2 := ⟨A4, t.s2.n, c4⟩ }) (T' := { T with joi := T.joi }) H9.out HR.out HB3.out HX4.out HG.out { (HT3.out.ext_ HX4.out) with joi := OwnSp.spans HO4.out } rfl rfl (fun k hk => by
   match k with
   | 0 | 1 | 3 | 4 | 5 | 6 | 7 | 8 | 9 | 10 | 11 => rfl
   | 2 => exact absurd rfl hk
   | k + 12 => rfl)
  have HRG := Lib.hid hrg
  have HR6 := Lib.hid hr6
  have HTF := Lib.hid hTF
  have HXF := Lib.hid hxF
  clear hrg hr6 hTF hxF
  refine wp_region_lit ?_
  refine wpList_load_mid rfl _ _ rfl (w.heap.size + 2) 0 rfl _ _ HRG.out Tryz.underlying26 rfl (by kernel_rfl) ?_
  refine wpList_store_row rfl _ _ _ rfl (w.heap.size + 1) _ rfl rfl 26 nil12 HR6.out (by kernel_rfl) rfl (tv_all { t with s2 := ⟨A4, t.s2.n, c4⟩ }) ?_
  go_wp2_with fail
  refine bodyPost_ret (v := TV.v { t with s2 := ⟨A4, t.s2.n, c4⟩ }) (results_cell_row (p := 8) (ty := 26) (by kernel_rfl) _ _ (w.heap.size + 1) 26 _ (0, 0) _ (by first | rfl | simp [Act.put]) (setRow_heap _ _ _ _ _ _ HR6.out) Tryz.underlying26 rfl (by kernel_rfl)) rfl ⟨_, _, rfl, HTF.out, HXF.out⟩
 ·obtain ⟨g, rfl⟩ := Own.some_ HO4.out (by omega)
  have hgl := HO4.out.lt g rfl
  have d1 : decide (0 < t.s2.n) = true := decide_eq_true (by omega)
  have d2 : decide ((0 : Int) < (t.s2.n : Int)) = true := decide_eq_true (by omega)
  have hpb := pickV_bd q (n := (t.s2.n : Int)) (by omega)
  obtain ⟨p, hp⟩ : ∃ p : Nat, pickV q (t.s2.n : Int) = p := ⟨(pickV q (t.s2.n : Int)).toNat, by omega⟩
  have hpn : p < t.s2.n := by omega
  have hpj : p < T.joi.length := by have h1 := HN.out; omega
  have hsm := HSM.out.joi
  have hp0 : (0 : Int) ≤ (p : Int) := Int.natCast_nonneg _
  have hp1 : (p : Int) < (t.s2.n : Int) := by omega
  have hn1000 : t.s2.n ≤ 1000 := by have := HN.out; omega
  have HP := Lib.hid hp
  obtain ⟨w5, hw5⟩ : ∃ w5, w5 = w4.setCell ⟨w.heap.size + 2, 2, none⟩ (.slice (some ⟨g, 0, none⟩) t.s2.n c4) := ⟨_, rfl⟩
  have q9 : w5.cell? ⟨w.heap.size + 2, 2, none⟩ = some (.slice (some ⟨g, 0, none⟩) t.s2.n c4) := by rw [hw5]; exact World.cell?_setCell_same _ _ _ g9
  have hz5 : w5.heap.size = w4.heap.size := by rw [hw5]; simp
  have hne : g ≠ w.heap.size + 2 := by omega
  obtain ⟨u2, hu2⟩ : ∃ u, (spCells T.joi)[p * 3 + 2]? = some u := ⟨_, List.getElem?_eq_getElem (by rw [spCells_len]; omega)⟩
  have hcg : w5.cell? ⟨g, p * 3 + 2, none⟩ = some u2 := by
   rw [hw5, World.cell?_setCell_other _ _ _ _ (by intro e; injection e with e _; exact hne e.symm)]
   obtain ⟨b, hb, hc⟩ := HO4.out.cells_ _ _ hu2
   injection hb with hb
   injection hb with hb
   subst hb
   exact hc
  have hfg : w5.frozen? ⟨g, p * 3 + 2, none⟩ = false := by
   rw [hw5, World.frozen?_setCell]
   exact World.ownsRow.frozenAt HO4.out _
  rw [← hw5]
  have HW5 := Lib.hid hw5
  clear g9 gf9 hn hp hpb hu2 hw5
  go_upto_region 27 with fail
  refine region_xk [g] [([0, 1, 2, 3, 4, 5, 7], 6), ([], 8), ([9, 10], 11)] [] (by kernel_rfl) (by kernel_rfl) ?_
  refine segWK_cons (by repeat (first | exact OpsAre.nil | exact OpAt.zero | apply OpAt.succ | apply OpsAre.cons)) (by repeat (first | exact OpAt.zero | apply OpAt.succ)) ?_
  have rX : ∀ yy : KpW [g] w5.drew, yy.w.cell? ⟨w.heap.size + 2, 2, none⟩ = some (.slice (some ⟨g, 0, none⟩) t.s2.n c4) := fun yy => (yy.h.cell ⟨w.heap.size + 2, 2, none⟩ (by show w.heap.size + 2 < w5.heap.size; omega) (by simp; omega)).trans q9
  repeat (go_big_quiet_step (fail))
  refine wpQuiet_nil ?_
  clear rX
  go_wp2_with fail
  refine (kpick_spec _ _ (by omega) (by omega) _).mono ?_
  rintro e w' ⟨rfl, rfl⟩
  rw [HP.out]
  go_wp2_with fail
  refine segKK_mk (Kp.refl _ _) ?_
  refine segWK_cons (by repeat (first | exact OpsAre.nil | exact OpAt.zero | apply OpAt.succ | apply OpsAre.cons)) (by repeat (first | exact OpAt.zero | apply OpAt.succ)) ?_
  refine wpQuiet_nil ?_
  go_wp2_with fail
  refine (kpick_spec _ _ (by decide) (by decide) _).mono ?_
  rintro e w' ⟨rfl, rfl⟩
  go_wp2_with fail
  refine segKK_mk (Kp.refl _ _) ?_
  have hcg' : w5.drew.cell? ⟨g, p * 3 + 2, none⟩ = some u2 := hcg
  have hfg' : w5.drew.frozen? ⟨g, p * 3 + 2, none⟩ = false := hfg
  refine segWK_cons (by repeat (first | exact OpsAre.nil | exact OpAt.zero | apply OpAt.succ | apply OpsAre.cons)) (by repeat (first | exact OpAt.zero | apply OpAt.succ)) ?_
  repeat (go_big_quiet_step (fail))
  refine wpQuiet_nil ?_
  go_wp2_with fail
  refine segKK_mk (Kp.setCell _ _ _ _ (by simp)) ?_
  refine segWK_nil (by repeat (first | exact OpsAre.nil | exact OpAt.zero | apply OpAt.succ | apply OpsAre.cons)) ?_
  refine wpQuiet_nil ?_
  go_upto_region 28 with fail
  have hcomm : (w5.setCell ⟨g, p * 3 + 2, none⟩ (.int .i64 (pickV v 8))).drew = ((w4.drew.setCell ⟨g, p * 3 + 2, none⟩ (.int .i64 (pickV v 8))).setCell ⟨w.heap.size + 2, 2, none⟩ (.slice (some ⟨g, 0, none⟩) t.s2.n c4)) := by
   rw [HW5.out]
   exact setCell_comm w4.drew _ _ (fun e => hne e.symm)
  rw [hcomm]
  have HX6 : Hid (Ext w3 (w4.drew.setCell ⟨g, p * 3 + 2, none⟩ (.int .i64 (pickV v 8)))) := Lib.hid (HX4.out.drew_.setCell_ hgl.1 _)
  have HO6 : Hid (OwnSp (w4.drew.setCell ⟨g, p * 3 + 2, none⟩ (.int .i64 (pickV v 8))) w3.heap.size (some ⟨g, 0, none⟩) t.s2.n c4 (T.joi.set p ⟨T.joi[p].lo, T.joi[p].hi, pickV v 8⟩)) := Lib.hid (by
   have h1 := (World.ownsRow.stored (World.ownsRow.drew HO4.out) (p * 3 + 2) (.int .i64 (pickV v 8))).1
   rw [spCells_set _ _ _ hpj] at h1
   exact h1)
  obtain ⟨w6, hw6⟩ : ∃ w6, w6 = w4.drew.setCell ⟨g, p * 3 + 2, none⟩ (.int .i64 (pickV v 8)) := ⟨_, rfl⟩
  rw [← hw6] at HX6 HO6 ⊢
  generalize T.joi.set p ⟨T.joi[p].lo, T.joi[p].hi, pickV v 8⟩ = L6 at *
  clear hcomm hw6
  obtain ⟨hrg, hr6, hTF, hxF⟩ := oth_end (w5 := w6) (f := 2) (t := t) (t' := { t with s2 := ⟨some ⟨g, 0, none⟩, t.s2.n, c4⟩ }) (T' := { T with joi := L6 }) H9.out HR.out HB3.out HX6.out HG.out { (HT3.out.ext_ HX6.out) with joi := OwnSp.spans HO6.out } rfl rfl (fun k hk => by
   match k with
   | 0 | 1 | 3 | 4 | 5 | 6 | 7 | 8 | 9 | 10 | 11 => rfl
   | 2 => exact absurd rfl hk
   | k + 12 => rfl)
  have HRG := Lib.hid hrg
  have HR6 := Lib.hid hr6
  have HTF := Lib.hid hTF
  have HXF := Lib.hid hxF
  clear hrg hr6 hTF hxF
  refine wp_region_lit ?_
  refine wpList_load_mid rfl _ _ rfl (w.heap.size + 2) 0 rfl _ _ HRG.out Tryz.underlying26 rfl (by kernel_rfl) ?_
  refine wpList_store_row rfl _ _ _ rfl (w.heap.size + 1) _ rfl rfl 26 nil12 HR6.out (by kernel_rfl) rfl (tv_all { t with s2 := ⟨some ⟨g, 0, none⟩, t.s2.n, c4⟩ }) ?_
  go_wp2_with fail
  refine bodyPost_ret (v := TV.v { t with s2 := ⟨some ⟨g, 0, none⟩, t.s2.n, c4⟩ }) (results_cell_row (p := 8) (ty := 26) (by kernel_rfl) _ _ (w.heap.size + 1) 26 _ (0, 0) _ (by first | rfl | simp [Act.put]) (setRow_heap _ _ _ _ _ _ HR6.out) Tryz.underlying26 rfl (by kernel_rfl)) rfl ⟨_, _, rfl, HTF.out, HXF.out⟩
end Go.Proofs.YtbdabjhankgcmaaGreatDoor
