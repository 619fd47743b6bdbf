/- Walk: keep.Other. (By program: ot_gen.py.) -/
import Derived.Test.YtbdabjhankgcmaaGreatDoorOh
import Derived.Deep.RegionLaw
import Derived.Deep.CutRange
import Derived.Laws.Tables
import Derived.Laws.Rows
import Derived.Deep.MidRow
namespace Go.Proofs.YtbdabjhankgcmaaGreatDoor
open Go.RowKit
def OtherPost (w : World) (e : Ending) (w' : World) : Prop := ∃ (t : TV) (T : Tbl), e = .returned t.v ∧ TblS w' t T ∧ Ext w w'
structure Small (T : Tbl) : Prop where
 cat : T.cat.length ≤ 1000
 cls : T.cls.length ≤ 1000
 joi : T.joi.length ≤ 1000
 bid : T.bid.length ≤ 1000
 scr : T.scr.length ≤ 1000
 sta : T.sta.length ≤ 1000
 ign : T.ign.length ≤ 1000
 ext : T.ext.length ≤ 1000
 mps : T.mps.length ≤ 1000
 dec : T.dec.length ≤ 1000
 exc : T.exc.length ≤ 1000
 pro : T.pro.length ≤ 1000
theorem small_of {T : Tbl} (h : rowsB T = true) : Small T := by
 simp only [rowsB, cols, rowsC, maps, rowsM, Bool.and_eq_true, decide_eq_true_eq] at h
 constructor <;> omega
theorem small_wf {T : Tbl} (h : wfB T = true) : Small T := by
 simp only [wfB, Bool.and_eq_true] at h
 exact small_of h.1.1.1.1.1.1.1.1
set_option maxHeartbeats 12800000 in
set_option maxRecDepth 100000 in
theorem other_k0 (t : TV) (T : Tbl) (how q v : Int) (w : World) (ht : TblS w t T) (hs : Small T) (hk : pickV how 12 = (0 : Nat)) :
  Calls Tryz.prog 21 #[t.v, .int .i64 how, .int .i64 q, .int .i64 v] w (OtherPost w) := by
 have HK := Lib.hid hk
 have HG := Lib.hid ht.glob
 have HSM := Lib.hid hs
 obtain ⟨w3, hw3, z3, HB3, HT3, H4, H9, HF, HR⟩ := oth_pre ht
 clear hk ht hs
 go_enter Tryz.func21, Tryz.ntmps21
 go_wp2_with fail
 refine (kpick_spec how 12 (by decide) (by decide) _).mono ?_
 rintro e w' ⟨rfl, rfl⟩
 rw [HK.out, ← hw3]
 clear hw3
 have r4 := H4.out w3 (Ext.refl _)
 go_upto_region 28 with (first
  | (at_builtin
     refine wpList_copy_spans rfl _ _ rfl w3.heap.size rfl rfl HT3.out.cls (by have h1 : t.s1.n = T.cls.length := HT3.out.cls.1.1; have h2 := HSM.out.cls; omega) (Nat.le_refl _) ?_
     intro A4 c4 w4 hown4 hgr4
     have HX4 : Hid (Ext w3 w4) := Lib.hid (ext_of_grown (Ext.refl _) hgr4 (by intro k hk; cases hk))
     have HO4 := Lib.hid hown4
     have hz4 : w3.heap.size ≤ w4.heap.size := HX4.out.b.size
     clear hown4 hgr4)
  | (at_builtin
     refine wpList_append_spans rfl _ _ rfl w3.heap.size rfl (Own.ext HO4.out ((Ext.refl _).alloc_ _)) rfl (one_span _ _ _ _ _) (by have h1 : t.s1.n = T.cls.length := HT3.out.cls.1.1; have h2 := HSM.out.cls; omega) (by have h1 := hz4; simp; omega) ?_
     intro A5 c5 w5 hown5 hgr5 _
     obtain ⟨L5, hown5⟩ : ∃ L5, OwnSp w5 w3.heap.size A5 _ c5 L5 := ⟨_, hown5⟩
     have HX5 : Hid (Ext w3 w5) := Lib.hid (ext_of_grown (HX4.out.alloc_ _) hgr5 (fun k hk => (HO4.out.lt k hk).1))
     have HO5 := Lib.hid hown5
     have g9 : w5.cell? ⟨w.heap.size + 2, 1, none⟩ = some (.slice t.s1.a t.s1.n t.s1.c) := (H9.out w5 HX5.out 1).trans rfl
     have gf9 := HF.out w5 HX5.out 1
     clear hown5 hgr5)
  | (go_at_call 15; refine (kpick_spec _ _ (by decide) (by decide) _).mono ?_; rintro e w' ⟨rfl, rfl⟩))
 all_goals
  obtain ⟨hrg, hr6, hTF, hxF⟩ := oth_end (f := 1) (t := t) (t' := { t with s1 := ⟨A5, _, c5⟩ }) (T' := { T with cls := L5 }) H9.out HR.out HB3.out HX5.out HG.out { (HT3.out.ext_ HX5.out) with cls := OwnSp.spans HO5.out } rfl rfl (fun k hk => by
   match k with
   | 0 | 2 | 3 | 4 | 5 | 6 | 7 | 8 | 9 | 10 | 11 => rfl
   | 1 => exact absurd rfl hk
   | k + 12 => rfl)
  have HRG := Lib.hid hrg
  have HR6 := Lib.hid hr6
  have HTF := Lib.hid hTF
  have HXF := Lib.hid hxF
  clear hrg hr6 hTF hxF
  refine wp_region_lit ?_
  refine wpList_load_mid rfl _ _ rfl (w.heap.size + 2) 0 rfl _ _ HRG.out Tryz.underlying26 rfl (by kernel_rfl) ?_
  refine wpList_store_row rfl _ _ _ rfl (w.heap.size + 1) _ rfl rfl 26 nil12 HR6.out (by kernel_rfl) rfl (tv_all { t with s1 := ⟨A5, _, c5⟩ }) ?_
  go_wp2_with fail
  refine bodyPost_ret (v := TV.v { t with s1 := ⟨A5, _, c5⟩ }) (results_cell_row (p := 8) (ty := 26) (by kernel_rfl) _ _ (w.heap.size + 1) 26 _ (0, 0) _ (by first | rfl | simp [Act.put]) (setRow_heap _ _ _ _ _ _ HR6.out) Tryz.underlying26 rfl (by kernel_rfl)) rfl ⟨_, _, rfl, HTF.out, HXF.out⟩
set_option maxHeartbeats 12800000 in
set_option maxRecDepth 100000 in
theorem other_k1 (t : TV) (T : Tbl) (how q v : Int) (w : World) (ht : TblS w t T) (hs : Small T) (hk : pickV how 12 = (1 : Nat)) :
  Calls Tryz.prog 21 #[t.v, .int .i64 how, .int .i64 q, .int .i64 v] w (OtherPost w) := by
 have HK := Lib.hid hk
 have HG := Lib.hid ht.glob
 have HSM := Lib.hid hs
 obtain ⟨w3, hw3, z3, HB3, HT3, H4, H9, HF, HR⟩ := oth_pre ht
 clear hk ht hs
 go_enter Tryz.func21, Tryz.ntmps21
 go_wp2_with fail
 refine (kpick_spec how 12 (by decide) (by decide) _).mono ?_
 rintro e w' ⟨rfl, rfl⟩
 rw [HK.out, ← hw3]
 clear hw3
 have r4 := H4.out w3 (Ext.refl _)
 go_upto_region 28 with (first
  | (at_builtin
     refine wpList_copy_spans rfl _ _ rfl w3.heap.size rfl rfl HT3.out.sta (by have h1 : t.s5.n = T.sta.length := HT3.out.sta.1.1; have h2 := HSM.out.sta; omega) (Nat.le_refl _) ?_
     intro A4 c4 w4 hown4 hgr4
     have HX4 : Hid (Ext w3 w4) := Lib.hid (ext_of_grown (Ext.refl _) hgr4 (by intro k hk; cases hk))
     have HO4 := Lib.hid hown4
     have hz4 : w3.heap.size ≤ w4.heap.size := HX4.out.b.size
     clear hown4 hgr4)
  | (at_builtin
     refine wpList_append_spans rfl _ _ rfl w3.heap.size rfl (Own.ext HO4.out ((Ext.refl _).alloc_ _)) rfl (one_span _ _ _ _ _) (by have h1 : t.s5.n = T.sta.length := HT3.out.sta.1.1; have h2 := HSM.out.sta; omega) (by have h1 := hz4; simp; omega) ?_
     intro A5 c5 w5 hown5 hgr5 _
     obtain ⟨L5, hown5⟩ : ∃ L5, OwnSp w5 w3.heap.size A5 _ c5 L5 := ⟨_, hown5⟩
     have HX5 : Hid (Ext w3 w5) := Lib.hid (ext_of_grown (HX4.out.alloc_ _) hgr5 (fun k hk => (HO4.out.lt k hk).1))
     have HO5 := Lib.hid hown5
     have g9 : w5.cell? ⟨w.heap.size + 2, 5, none⟩ = some (.slice t.s5.a t.s5.n t.s5.c) := (H9.out w5 HX5.out 5).trans rfl
     have gf9 := HF.out w5 HX5.out 5
     clear hown5 hgr5)
  | (go_at_call 15; refine (kpick_spec _ _ (by decide) (by decide) _).mono ?_; rintro e w' ⟨rfl, rfl⟩))
 all_goals
  obtain ⟨hrg, hr6, hTF, hxF⟩ := oth_end (f := 5) (t := t) (t' := { t with s5 := ⟨A5, _, c5⟩ }) (T' := { T with sta := L5 }) H9.out HR.out HB3.out HX5.out HG.out { (HT3.out.ext_ HX5.out) with sta := OwnSp.spans HO5.out } rfl rfl (fun k hk => by
   match k with
   | 0 | 1 | 2 | 3 | 4 | 6 | 7 | 8 | 9 | 10 | 11 => rfl
   | 5 => exact absurd rfl hk
   | k + 12 => rfl)
  have HRG := Lib.hid hrg
  have HR6 := Lib.hid hr6
  have HTF := Lib.hid hTF
  have HXF := Lib.hid hxF
  clear hrg hr6 hTF hxF
  refine wp_region_lit ?_
  refine wpList_load_mid rfl _ _ rfl (w.heap.size + 2) 0 rfl _ _ HRG.out Tryz.underlying26 rfl (by kernel_rfl) ?_
  refine wpList_store_row rfl _ _ _ rfl (w.heap.size + 1) _ rfl rfl 26 nil12 HR6.out (by kernel_rfl) rfl (tv_all { t with s5 := ⟨A5, _, c5⟩ }) ?_
  go_wp2_with fail
  refine bodyPost_ret (v := TV.v { t with s5 := ⟨A5, _, c5⟩ }) (results_cell_row (p := 8) (ty := 26) (by kernel_rfl) _ _ (w.heap.size + 1) 26 _ (0, 0) _ (by first | rfl | simp [Act.put]) (setRow_heap _ _ _ _ _ _ HR6.out) Tryz.underlying26 rfl (by kernel_rfl)) rfl ⟨_, _, rfl, HTF.out, HXF.out⟩
set_option maxHeartbeats 12800000 in
set_option maxRecDepth 100000 in
theorem other_k5 (t : TV) (T : Tbl) (how q v : Int) (w : World) (ht : TblS w t T) (hs : Small T) (hk : pickV how 12 = (5 : Nat)) :
  Calls Tryz.prog 21 #[t.v, .int .i64 how, .int .i64 q, .int .i64 v] w (OtherPost w) := by
 have HK := Lib.hid hk
 have HG := Lib.hid ht.glob
 have HSM := Lib.hid hs
 obtain ⟨w3, hw3, z3, HB3, HT3, H4, H9, HF, HR⟩ := oth_pre ht
 clear hk ht hs
 go_enter Tryz.func21, Tryz.ntmps21
 go_wp2_with fail
 refine (kpick_spec how 12 (by decide) (by decide) _).mono ?_
 rintro e w' ⟨rfl, rfl⟩
 rw [HK.out, ← hw3]
 clear hw3
 have r4 := H4.out w3 (Ext.refl _)
 have hv4 := pickV_bd v (n := 4) (by decide)
 obtain ⟨p, hp⟩ : ∃ p : Nat, pickV v 4 = p := ⟨(pickV v 4).toNat, by omega⟩
 have hp4 : p < 4 := by omega
 have HP := Lib.hid hp
 have hp0 : (0 : Int) ≤ (p : Int) := Int.natCast_nonneg _
 have hp1 : (p : Int) < 4 := by omega
 obtain ⟨y, hy⟩ : ∃ y, ([131072, 7684, 945, 5] : List Int).getD p 0 = y := ⟨_, rfl⟩
 have HC : Hid (∀ w' : World, (w'.alloc (.cells #[.int .i64 131072, .int .i64 7684, .int .i64 945, .int .i64 5] 3)).cell? ⟨w'.heap.size, p, none⟩ = some (.int .i64 y)) := Lib.hid (fun w' => by
  rw [World.cell?_alloc_new, ← hy]
  match p, hp4 with
  | 0, _ | 1, _ | 2, _ | 3, _ => rfl)
 clear hv4 hp hy
 go_upto_region 28 with (first
  | (at_builtin
     refine wpList_copy_ints rfl _ _ rfl w3.heap.size rfl rfl HT3.out.exc (by have h1 : t.s10.n = T.exc.length := HT3.out.exc.1.1; have h2 := HSM.out.exc; omega) (Nat.le_refl _) ?_
     intro A4 c4 w4 hown4 hgr4
     have HX4 : Hid (Ext w3 w4) := Lib.hid (ext_of_grown (Ext.refl _) hgr4 (by intro k hk; cases hk))
     have HO4 := Lib.hid hown4
     have hz4 : w3.heap.size ≤ w4.heap.size := HX4.out.b.size
     clear hown4 hgr4)
  | (at_builtin
     refine wpList_append_ints rfl _ _ rfl w3.heap.size rfl (Own.ext HO4.out (((Ext.refl _).alloc_ _).alloc_ _)) rfl (one_int' (by simp) _) (by have h1 : t.s10.n = T.exc.length := HT3.out.exc.1.1; have h2 := HSM.out.exc; omega) (by have h1 := hz4; simp; omega) ?_
     intro A5 c5 w5 hown5 hgr5 _
     obtain ⟨L5, hown5⟩ : ∃ L5 : List Int, OwnI w5 w3.heap.size A5 (t.s10.n + 1) c5 L5 := ⟨T.exc ++ [y], hown5⟩
     have HX5 : Hid (Ext w3 w5) := Lib.hid (ext_of_grown ((HX4.out.alloc_ _).alloc_ _) hgr5 (fun k hk => (HO4.out.lt k hk).1))
     have HO5 := Lib.hid hown5
     have g9 : w5.cell? ⟨w.heap.size + 2, 10, none⟩ = some (.slice t.s10.a t.s10.n t.s10.c) := (H9.out w5 HX5.out 10).trans rfl
     have gf9 := HF.out w5 HX5.out 10
     clear hown5 hgr5)
  | (go_at_call 15; refine (kpick_spec _ _ (by decide) (by decide) _).mono ?_; rintro e w' ⟨rfl, rfl⟩; rw [HP.out]; have hc4 := HC.out w4))
 all_goals
  obtain ⟨hrg, hr6, hTF, hxF⟩ := oth_end (f := 10) (t := t) (t' := { t with s10 := ⟨A5, _, c5⟩ }) (T' := { T with exc := L5 }) H9.out HR.out HB3.out HX5.out HG.out { (HT3.out.ext_ HX5.out) with exc := OwnI.ints HO5.out } rfl rfl (fun k hk => by
   match k with
   | 0 | 1 | 2 | 3 | 4 | 5 | 6 | 7 | 8 | 9 | 11 => rfl
   | 10 => exact absurd rfl hk
   | k + 12 => rfl)
  have HRG := Lib.hid hrg
  have HR6 := Lib.hid hr6
  have HTF := Lib.hid hTF
  have HXF := Lib.hid hxF
  clear hrg hr6 hTF hxF
  refine wp_region_lit ?_
  refine wpList_load_mid rfl _ _ rfl (w.heap.size + 2) 0 rfl _ _ HRG.out Tryz.underlying26 rfl (by kernel_rfl) ?_
  refine wpList_store_row rfl _ _ _ rfl (w.heap.size + 1) _ rfl rfl 26 nil12 HR6.out (by kernel_rfl) rfl (tv_all { t with s10 := ⟨A5, _, c5⟩ }) ?_
  go_wp2_with fail
  refine bodyPost_ret (v := TV.v { t with s10 := ⟨A5, _, c5⟩ }) (results_cell_row (p := 8) (ty := 26) (by kernel_rfl) _ _ (w.heap.size + 1) 26 _ (0, 0) _ (by first | rfl | simp [Act.put]) (setRow_heap _ _ _ _ _ _ HR6.out) Tryz.underlying26 rfl (by kernel_rfl)) rfl ⟨_, _, rfl, HTF.out, HXF.out⟩
end Go.Proofs.YtbdabjhankgcmaaGreatDoor
