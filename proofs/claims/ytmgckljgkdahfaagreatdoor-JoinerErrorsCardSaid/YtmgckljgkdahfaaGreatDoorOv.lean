/- Walk: keep.Other, more of its cases. (By program: ot_gen.py.) -/
import Derived.Test.YtmgckljgkdahfaaGreatDoorOt
import Derived.Deep.RegionLaw
import Derived.Deep.CutRange
import Derived.Laws.Tables
import Derived.Laws.Rows
import Derived.Deep.MidRow
namespace Go.Proofs.YtmgckljgkdahfaaGreatDoor
open Go.RowKit

set_option maxHeartbeats 12800000 in
set_option maxRecDepth 100000 in
theorem other_k7 (t : TV) (T : Tbl) (how q v : Int) (w : World) (ht : TblS w t T) (hs : Small T) (hk : pickV how 12 = (7 : Nat)) :
    Calls Tryz.prog 16 #[t.v, .int .i64 how, .int .i64 q, .int .i64 v] w (OtherPost w) := by
  have HK := Lib.hid hk
  have HG := Lib.hid ht.glob
  have HSM := Lib.hid hs
  obtain ⟨w3, hw3⟩ : ∃ w3, w3 = (((w.alloc (.cells #[.slice t.s0.a t.s0.n t.s0.c, .slice t.s1.a t.s1.n t.s1.c, .slice t.s2.a t.s2.n t.s2.c, .slice t.s3.a t.s3.n t.s3.c, .slice t.s4.a t.s4.n t.s4.c, .slice t.s5.a t.s5.n t.s5.c, .slice t.s6.a t.s6.n t.s6.c, .slice t.s7.a t.s7.n t.s7.c, .slice t.s8.a t.s8.n t.s8.c, .slice t.s9.a t.s9.n t.s9.c, .slice t.s10.a t.s10.n t.s10.c, .slice t.s11.a t.s11.n t.s11.c] 26))).alloc (.cells #[.slice none 0 0, .slice none 0 0, .slice none 0 0, .slice none 0 0, .slice none 0 0, .slice none 0 0, .slice none 0 0, .slice none 0 0, .slice none 0 0, .slice none 0 0, .slice none 0 0, .slice none 0 0] 26)).alloc (.cells #[.slice t.s0.a t.s0.n t.s0.c, .slice t.s1.a t.s1.n t.s1.c, .slice t.s2.a t.s2.n t.s2.c, .slice t.s3.a t.s3.n t.s3.c, .slice t.s4.a t.s4.n t.s4.c, .slice t.s5.a t.s5.n t.s5.c, .slice t.s6.a t.s6.n t.s6.c, .slice t.s7.a t.s7.n t.s7.c, .slice t.s8.a t.s8.n t.s8.c, .slice t.s9.a t.s9.n t.s9.c, .slice t.s10.a t.s10.n t.s10.c, .slice t.s11.a t.s11.n t.s11.c] 26) := ⟨_, rfl⟩
  have hx12 : Ext w (((w.alloc (.cells #[.slice t.s0.a t.s0.n t.s0.c, .slice t.s1.a t.s1.n t.s1.c, .slice t.s2.a t.s2.n t.s2.c, .slice t.s3.a t.s3.n t.s3.c, .slice t.s4.a t.s4.n t.s4.c, .slice t.s5.a t.s5.n t.s5.c, .slice t.s6.a t.s6.n t.s6.c, .slice t.s7.a t.s7.n t.s7.c, .slice t.s8.a t.s8.n t.s8.c, .slice t.s9.a t.s9.n t.s9.c, .slice t.s10.a t.s10.n t.s10.c, .slice t.s11.a t.s11.n t.s11.c] 26))).alloc (.cells #[.slice none 0 0, .slice none 0 0, .slice none 0 0, .slice none 0 0, .slice none 0 0, .slice none 0 0, .slice none 0 0, .slice none 0 0, .slice none 0 0, .slice none 0 0, .slice none 0 0, .slice none 0 0] 26)) := ((Ext.refl _).alloc_ _).alloc_ _
  have hx13 : Ext (w.alloc (.cells #[.slice t.s0.a t.s0.n t.s0.c, .slice t.s1.a t.s1.n t.s1.c, .slice t.s2.a t.s2.n t.s2.c, .slice t.s3.a t.s3.n t.s3.c, .slice t.s4.a t.s4.n t.s4.c, .slice t.s5.a t.s5.n t.s5.c, .slice t.s6.a t.s6.n t.s6.c, .slice t.s7.a t.s7.n t.s7.c, .slice t.s8.a t.s8.n t.s8.c, .slice t.s9.a t.s9.n t.s9.c, .slice t.s10.a t.s10.n t.s10.c, .slice t.s11.a t.s11.n t.s11.c] 26)) w3 := by rw [hw3]; exact ((Ext.refl _).alloc_ _).alloc_ _
  have hx23 : Ext (((w.alloc (.cells #[.slice t.s0.a t.s0.n t.s0.c, .slice t.s1.a t.s1.n t.s1.c, .slice t.s2.a t.s2.n t.s2.c, .slice t.s3.a t.s3.n t.s3.c, .slice t.s4.a t.s4.n t.s4.c, .slice t.s5.a t.s5.n t.s5.c, .slice t.s6.a t.s6.n t.s6.c, .slice t.s7.a t.s7.n t.s7.c, .slice t.s8.a t.s8.n t.s8.c, .slice t.s9.a t.s9.n t.s9.c, .slice t.s10.a t.s10.n t.s10.c, .slice t.s11.a t.s11.n t.s11.c] 26))).alloc (.cells #[.slice none 0 0, .slice none 0 0, .slice none 0 0, .slice none 0 0, .slice none 0 0, .slice none 0 0, .slice none 0 0, .slice none 0 0, .slice none 0 0, .slice none 0 0, .slice none 0 0, .slice none 0 0] 26)) w3 := by rw [hw3]; exact (Ext.refl _).alloc_ _
  have z2 : (((w.alloc (.cells #[.slice t.s0.a t.s0.n t.s0.c, .slice t.s1.a t.s1.n t.s1.c, .slice t.s2.a t.s2.n t.s2.c, .slice t.s3.a t.s3.n t.s3.c, .slice t.s4.a t.s4.n t.s4.c, .slice t.s5.a t.s5.n t.s5.c, .slice t.s6.a t.s6.n t.s6.c, .slice t.s7.a t.s7.n t.s7.c, .slice t.s8.a t.s8.n t.s8.c, .slice t.s9.a t.s9.n t.s9.c, .slice t.s10.a t.s10.n t.s10.c, .slice t.s11.a t.s11.n t.s11.c] 26))).alloc (.cells #[.slice none 0 0, .slice none 0 0, .slice none 0 0, .slice none 0 0, .slice none 0 0, .slice none 0 0, .slice none 0 0, .slice none 0 0, .slice none 0 0, .slice none 0 0, .slice none 0 0, .slice none 0 0] 26)).heap.size = w.heap.size + 2 := by simp
  have z3 : w3.heap.size = w.heap.size + 3 := by rw [hw3]; simp
  have HB3 := Lib.hid (hx12.trans' hx23)
  have HT3 := Lib.hid (ht.ext_ HB3.out)
  have H4 : Hid (∀ w', Ext w3 w' → ∀ k : Nat, w'.cell? ⟨w.heap.size, k, none⟩ = t.v.cells[k]?) := Lib.hid (fun w' hw' => box_at (hx13.trans' hw'))
  have H9 : Hid (∀ w', Ext w3 w' → ∀ k : Nat, w'.cell? ⟨w.heap.size + 2, k, none⟩ = t.v.cells[k]?) := Lib.hid (fun w' hw' k => by
    rw [hw'.b.cell (p := ⟨w.heap.size + 2, k, none⟩) (by show w.heap.size + 2 < _; omega), hw3, ← z2]
    exact World.cell?_alloc_new _ _ _ k)
  have HF : Hid (∀ w', Ext w3 w' → ∀ k : Nat, w'.frozen? ⟨w.heap.size + 2, k, none⟩ = false) := Lib.hid (fun w' hw' k => by
    rw [hw'.b.frozen (p := ⟨w.heap.size + 2, k, none⟩) (by show w.heap.size + 2 < _; omega), hw3]
    exact World.frozen?_alloc_at _ _ _ _ z2.symm)
  have HR : Hid (∀ w', Ext w3 w' → w'.heap[w.heap.size + 1]? = some (.cells nil12 26 (0, 0))) := Lib.hid (fun w' hw' => by
    rw [hw'.b.block _ (by omega), hx23.b.block _ (by omega)]
    have h := heap_alloc_new ((w.alloc (.cells #[.slice t.s0.a t.s0.n t.s0.c, .slice t.s1.a t.s1.n t.s1.c, .slice t.s2.a t.s2.n t.s2.c, .slice t.s3.a t.s3.n t.s3.c, .slice t.s4.a t.s4.n t.s4.c, .slice t.s5.a t.s5.n t.s5.c, .slice t.s6.a t.s6.n t.s6.c, .slice t.s7.a t.s7.n t.s7.c, .slice t.s8.a t.s8.n t.s8.c, .slice t.s9.a t.s9.n t.s9.c, .slice t.s10.a t.s10.n t.s10.c, .slice t.s11.a t.s11.n t.s11.c] 26))) (.cells #[.slice none 0 0, .slice none 0 0, .slice none 0 0, .slice none 0 0, .slice none 0 0, .slice none 0 0, .slice none 0 0, .slice none 0 0, .slice none 0 0, .slice none 0 0, .slice none 0 0, .slice none 0 0] 26)
    rw [show ((w.alloc (.cells #[.slice t.s0.a t.s0.n t.s0.c, .slice t.s1.a t.s1.n t.s1.c, .slice t.s2.a t.s2.n t.s2.c, .slice t.s3.a t.s3.n t.s3.c, .slice t.s4.a t.s4.n t.s4.c, .slice t.s5.a t.s5.n t.s5.c, .slice t.s6.a t.s6.n t.s6.c, .slice t.s7.a t.s7.n t.s7.c, .slice t.s8.a t.s8.n t.s8.c, .slice t.s9.a t.s9.n t.s9.c, .slice t.s10.a t.s10.n t.s10.c, .slice t.s11.a t.s11.n t.s11.c] 26))).heap.size = w.heap.size + 1 from by simp] at h
    exact h)
  clear hk ht hs hx12 hx13 hx23 z2
  go_enter Tryz.func16, Tryz.ntmps16
  go_wp2_with fail
  refine (kpick_spec how 12 (by decide) (by decide) _).mono ?_
  rintro e w' ⟨rfl, rfl⟩
  rw [HK.out, ← hw3]
  clear hw3
  have r4 := H4.out w3 (Ext.refl _)
  go_upto_region 28 with (first
    | (at_builtin
       refine wpList_copy_mps rfl _ _ rfl w3.heap.size rfl rfl HT3.out.mps (by have h1 : t.s8.n = T.mps.length := HT3.out.mps.1.1; have h2 := HSM.out.mps; omega) (Nat.le_refl _) ?_
       intro A4 c4 w4 hown4 hgr4 hbl4
       have HX4 : Hid (Ext w3 w4) := Lib.hid (ext_of_grown (Ext.refl _) hgr4 (by intro k hk; cases hk))
       have HO4 := Lib.hid hown4
       have hz4 : w3.heap.size ≤ w4.heap.size := HX4.out.b.size
       have HL4 := Lib.hid hbl4
       clear hbl4
       clear hown4 hgr4)
    | (at_builtin
       refine wpList_append_lit1 rfl _ _ rfl (blkOf A4).toList w3.heap.size rfl rfl (by simp) (own_alloc HO4.out _) (IntS.hide_ (one_int' (by simp) _) (fun h => by have h1 := HL4.out _ h; omega)) (fun b hb => by simp [hb]) (by have h1 : t.s8.n = T.mps.length := HT3.out.mps.1.1; have h2 := HSM.out.mps; omega) (by have h1 := hz4; simp; omega) ?_
       intro A5 c5 w5 M5 L5 hown5 hgr5
       have HX5 : Hid (Ext w3 w5) := Lib.hid (ext_of_grown (Ext.alloc_ (Ext.alloc_ HX4.out _) _) hgr5 (fun k hk => (HO4.out.lt k hk).1))
       have HO5 := Lib.hid hown5
       have g9 : w5.cell? ⟨w.heap.size + 2, 8, none⟩ = some (.slice t.s8.a t.s8.n t.s8.c) := (H9.out w5 HX5.out 8).trans rfl
       have gf9 := HF.out w5 HX5.out 8
       clear hown5 hgr5))
  all_goals
    obtain ⟨hrg, hr6, hTF, hxF⟩ := oth_end (f := 8) (t := t) (t' := { t with s8 := ⟨A5, _, c5⟩ }) (T' := { T with mps := L5 }) H9.out HR.out HB3.out HX5.out HG.out { (HT3.out.ext_ HX5.out) with mps := OwnMp.maps0 HO5.out } rfl rfl (fun k hk => by
      match k with
      | 0 | 1 | 2 | 3 | 4 | 5 | 6 | 7 | 9 | 10 | 11 => rfl
      | 8 => exact absurd rfl hk
      | k + 12 => rfl)
    have HRG := Lib.hid hrg
    have HR6 := Lib.hid hr6
    have HTF := Lib.hid hTF
    have HXF := Lib.hid hxF
    clear hrg hr6 hTF hxF
    refine wp_region_lit ?_
    refine wpList_load_mid rfl _ _ rfl (w.heap.size + 2) 0 rfl _ _ HRG.out Tryz.underlying26 rfl (by kernel_rfl) ?_
    refine wpList_store_row rfl _ _ _ rfl (w.heap.size + 1) _ rfl rfl 26 nil12 HR6.out (by kernel_rfl) rfl (tv_all { t with s8 := ⟨A5, _, c5⟩ }) ?_
    go_wp2_with fail
    refine bodyPost_ret (v := TV.v { t with s8 := ⟨A5, _, c5⟩ }) (results_cell_row (p := 8) (ty := 26) (by kernel_rfl) _ _ (w.heap.size + 1) 26 _ (0, 0) _ (by first | rfl | simp [Act.put]) (setRow_heap _ _ _ _ _ _ HR6.out) Tryz.underlying26 rfl (by kernel_rfl)) rfl ⟨_, _, rfl, HTF.out, HXF.out⟩

set_option maxHeartbeats 12800000 in
set_option maxRecDepth 100000 in
theorem other_k8 (t : TV) (T : Tbl) (how q v : Int) (w : World) (ht : TblS w t T) (hs : Small T) (hk : pickV how 12 = (8 : Nat)) :
    Calls Tryz.prog 16 #[t.v, .int .i64 how, .int .i64 q, .int .i64 v] w (OtherPost w) := by
  have HK := Lib.hid hk
  have HG := Lib.hid ht.glob
  have HSM := Lib.hid hs
  obtain ⟨w3, hw3⟩ : ∃ w3, w3 = (((w.alloc (.cells #[.slice t.s0.a t.s0.n t.s0.c, .slice t.s1.a t.s1.n t.s1.c, .slice t.s2.a t.s2.n t.s2.c, .slice t.s3.a t.s3.n t.s3.c, .slice t.s4.a t.s4.n t.s4.c, .slice t.s5.a t.s5.n t.s5.c, .slice t.s6.a t.s6.n t.s6.c, .slice t.s7.a t.s7.n t.s7.c, .slice t.s8.a t.s8.n t.s8.c, .slice t.s9.a t.s9.n t.s9.c, .slice t.s10.a t.s10.n t.s10.c, .slice t.s11.a t.s11.n t.s11.c] 26))).alloc (.cells #[.slice none 0 0, .slice none 0 0, .slice none 0 0, .slice none 0 0, .slice none 0 0, .slice none 0 0, .slice none 0 0, .slice none 0 0, .slice none 0 0, .slice none 0 0, .slice none 0 0, .slice none 0 0] 26)).alloc (.cells #[.slice t.s0.a t.s0.n t.s0.c, .slice t.s1.a t.s1.n t.s1.c, .slice t.s2.a t.s2.n t.s2.c, .slice t.s3.a t.s3.n t.s3.c, .slice t.s4.a t.s4.n t.s4.c, .slice t.s5.a t.s5.n t.s5.c, .slice t.s6.a t.s6.n t.s6.c, .slice t.s7.a t.s7.n t.s7.c, .slice t.s8.a t.s8.n t.s8.c, .slice t.s9.a t.s9.n t.s9.c, .slice t.s10.a t.s10.n t.s10.c, .slice t.s11.a t.s11.n t.s11.c] 26) := ⟨_, rfl⟩
  have hx12 : Ext w (((w.alloc (.cells #[.slice t.s0.a t.s0.n t.s0.c, .slice t.s1.a t.s1.n t.s1.c, .slice t.s2.a t.s2.n t.s2.c, .slice t.s3.a t.s3.n t.s3.c, .slice t.s4.a t.s4.n t.s4.c, .slice t.s5.a t.s5.n t.s5.c, .slice t.s6.a t.s6.n t.s6.c, .slice t.s7.a t.s7.n t.s7.c, .slice t.s8.a t.s8.n t.s8.c, .slice t.s9.a t.s9.n t.s9.c, .slice t.s10.a t.s10.n t.s10.c, .slice t.s11.a t.s11.n t.s11.c] 26))).alloc (.cells #[.slice none 0 0, .slice none 0 0, .slice none 0 0, .slice none 0 0, .slice none 0 0, .slice none 0 0, .slice none 0 0, .slice none 0 0, .slice none 0 0, .slice none 0 0, .slice none 0 0, .slice none 0 0] 26)) := ((Ext.refl _).alloc_ _).alloc_ _
  have hx13 : Ext (w.alloc (.cells #[.slice t.s0.a t.s0.n t.s0.c, .slice t.s1.a t.s1.n t.s1.c, .slice t.s2.a t.s2.n t.s2.c, .slice t.s3.a t.s3.n t.s3.c, .slice t.s4.a t.s4.n t.s4.c, .slice t.s5.a t.s5.n t.s5.c, .slice t.s6.a t.s6.n t.s6.c, .slice t.s7.a t.s7.n t.s7.c, .slice t.s8.a t.s8.n t.s8.c, .slice t.s9.a t.s9.n t.s9.c, .slice t.s10.a t.s10.n t.s10.c, .slice t.s11.a t.s11.n t.s11.c] 26)) w3 := by rw [hw3]; exact ((Ext.refl _).alloc_ _).alloc_ _
  have hx23 : Ext (((w.alloc (.cells #[.slice t.s0.a t.s0.n t.s0.c, .slice t.s1.a t.s1.n t.s1.c, .slice t.s2.a t.s2.n t.s2.c, .slice t.s3.a t.s3.n t.s3.c, .slice t.s4.a t.s4.n t.s4.c, .slice t.s5.a t.s5.n t.s5.c, .slice t.s6.a t.s6.n t.s6.c, .slice t.s7.a t.s7.n t.s7.c, .slice t.s8.a t.s8.n t.s8.c, .slice t.s9.a t.s9.n t.s9.c, .slice t.s10.a t.s10.n t.s10.c, .slice t.s11.a t.s11.n t.s11.c] 26))).alloc (.cells #[.slice none 0 0, .slice none 0 0, .slice none 0 0, .slice none 0 0, .slice none 0 0, .slice none 0 0, .slice none 0 0, .slice none 0 0, .slice none 0 0, .slice none 0 0, .slice none 0 0, .slice none 0 0] 26)) w3 := by rw [hw3]; exact (Ext.refl _).alloc_ _
  have z2 : (((w.alloc (.cells #[.slice t.s0.a t.s0.n t.s0.c, .slice t.s1.a t.s1.n t.s1.c, .slice t.s2.a t.s2.n t.s2.c, .slice t.s3.a t.s3.n t.s3.c, .slice t.s4.a t.s4.n t.s4.c, .slice t.s5.a t.s5.n t.s5.c, .slice t.s6.a t.s6.n t.s6.c, .slice t.s7.a t.s7.n t.s7.c, .slice t.s8.a t.s8.n t.s8.c, .slice t.s9.a t.s9.n t.s9.c, .slice t.s10.a t.s10.n t.s10.c, .slice t.s11.a t.s11.n t.s11.c] 26))).alloc (.cells #[.slice none 0 0, .slice none 0 0, .slice none 0 0, .slice none 0 0, .slice none 0 0, .slice none 0 0, .slice none 0 0, .slice none 0 0, .slice none 0 0, .slice none 0 0, .slice none 0 0, .slice none 0 0] 26)).heap.size = w.heap.size + 2 := by simp
  have z3 : w3.heap.size = w.heap.size + 3 := by rw [hw3]; simp
  have HB3 := Lib.hid (hx12.trans' hx23)
  have HT3 := Lib.hid (ht.ext_ HB3.out)
  have H4 : Hid (∀ w', Ext w3 w' → ∀ k : Nat, w'.cell? ⟨w.heap.size, k, none⟩ = t.v.cells[k]?) := Lib.hid (fun w' hw' => box_at (hx13.trans' hw'))
  have H9 : Hid (∀ w', Ext w3 w' → ∀ k : Nat, w'.cell? ⟨w.heap.size + 2, k, none⟩ = t.v.cells[k]?) := Lib.hid (fun w' hw' k => by
    rw [hw'.b.cell (p := ⟨w.heap.size + 2, k, none⟩) (by show w.heap.size + 2 < _; omega), hw3, ← z2]
    exact World.cell?_alloc_new _ _ _ k)
  have HF : Hid (∀ w', Ext w3 w' → ∀ k : Nat, w'.frozen? ⟨w.heap.size + 2, k, none⟩ = false) := Lib.hid (fun w' hw' k => by
    rw [hw'.b.frozen (p := ⟨w.heap.size + 2, k, none⟩) (by show w.heap.size + 2 < _; omega), hw3]
    exact World.frozen?_alloc_at _ _ _ _ z2.symm)
  have HR : Hid (∀ w', Ext w3 w' → w'.heap[w.heap.size + 1]? = some (.cells nil12 26 (0, 0))) := Lib.hid (fun w' hw' => by
    rw [hw'.b.block _ (by omega), hx23.b.block _ (by omega)]
    have h := heap_alloc_new ((w.alloc (.cells #[.slice t.s0.a t.s0.n t.s0.c, .slice t.s1.a t.s1.n t.s1.c, .slice t.s2.a t.s2.n t.s2.c, .slice t.s3.a t.s3.n t.s3.c, .slice t.s4.a t.s4.n t.s4.c, .slice t.s5.a t.s5.n t.s5.c, .slice t.s6.a t.s6.n t.s6.c, .slice t.s7.a t.s7.n t.s7.c, .slice t.s8.a t.s8.n t.s8.c, .slice t.s9.a t.s9.n t.s9.c, .slice t.s10.a t.s10.n t.s10.c, .slice t.s11.a t.s11.n t.s11.c] 26))) (.cells #[.slice none 0 0, .slice none 0 0, .slice none 0 0, .slice none 0 0, .slice none 0 0, .slice none 0 0, .slice none 0 0, .slice none 0 0, .slice none 0 0, .slice none 0 0, .slice none 0 0, .slice none 0 0] 26)
    rw [show ((w.alloc (.cells #[.slice t.s0.a t.s0.n t.s0.c, .slice t.s1.a t.s1.n t.s1.c, .slice t.s2.a t.s2.n t.s2.c, .slice t.s3.a t.s3.n t.s3.c, .slice t.s4.a t.s4.n t.s4.c, .slice t.s5.a t.s5.n t.s5.c, .slice t.s6.a t.s6.n t.s6.c, .slice t.s7.a t.s7.n t.s7.c, .slice t.s8.a t.s8.n t.s8.c, .slice t.s9.a t.s9.n t.s9.c, .slice t.s10.a t.s10.n t.s10.c, .slice t.s11.a t.s11.n t.s11.c] 26))).heap.size = w.heap.size + 1 from by simp] at h
    exact h)
  clear hk ht hs hx12 hx13 hx23 z2
  go_enter Tryz.func16, Tryz.ntmps16
  go_wp2_with fail
  refine (kpick_spec how 12 (by decide) (by decide) _).mono ?_
  rintro e w' ⟨rfl, rfl⟩
  rw [HK.out, ← hw3]
  clear hw3
  have r4 := H4.out w3 (Ext.refl _)
  have hv5 := pickV_bd v (n := 5) (by decide)
  obtain ⟨p, hp⟩ : ∃ p : Nat, pickV v 5 = p := ⟨(pickV v 5).toNat, by omega⟩
  have hp4 : p < 5 := by omega
  have HP := Lib.hid hp
  have hp0 : (0 : Int) ≤ (p : Int) := Int.natCast_nonneg _
  have hp1 : (p : Int) < 5 := by omega
  obtain ⟨y, hy⟩ : ∃ y, ([2, 3, 4, 60, 61] : List Int).getD p 0 = y := ⟨_, rfl⟩
  have HC : Hid (∀ w' : World, (w'.alloc (.cells #[.int .i64 2, .int .i64 3, .int .i64 4, .int .i64 60, .int .i64 61] 3)).cell? ⟨w'.heap.size, p, none⟩ = some (.int .i64 y)) := Lib.hid (fun w' => by
    rw [World.cell?_alloc_new, ← hy]
    match p, hp4 with
    | 0, _ | 1, _ | 2, _ | 3, _ | 4, _ => rfl)
  clear hv5 hp hy
  go_upto_region 28 with (first
    | (at_builtin
       refine wpList_copy_mps rfl _ _ rfl w3.heap.size rfl rfl HT3.out.ext (by have h1 : t.s7.n = T.ext.length := HT3.out.ext.1.1; have h2 := HSM.out.ext; omega) (Nat.le_refl _) ?_
       intro A4 c4 w4 hown4 hgr4 hbl4
       have HX4 : Hid (Ext w3 w4) := Lib.hid (ext_of_grown (Ext.refl _) hgr4 (by intro k hk; cases hk))
       have HO4 := Lib.hid hown4
       have hz4 : w3.heap.size ≤ w4.heap.size := HX4.out.b.size
       have HL4 := Lib.hid hbl4
       clear hbl4
       clear hown4 hgr4)
    | (at_builtin
       refine wpList_append_lit1 rfl _ _ rfl (blkOf A4).toList w3.heap.size rfl rfl (by simp) (own_alloc (own_alloc HO4.out _) _) (IntS.hide_ (ints_at (by simp) [3, y] _ (by simp [maxLen])) (fun h => by have h1 := HL4.out _ h; omega)) (fun b hb => by simp [hb]) (by have h1 : t.s7.n = T.ext.length := HT3.out.ext.1.1; have h2 := HSM.out.ext; omega) (by have h1 := hz4; simp; omega) ?_
       intro A5 c5 w5 M5 L5 hown5 hgr5
       have HX5 : Hid (Ext w3 w5) := Lib.hid (ext_of_grown (Ext.alloc_ (Ext.alloc_ (Ext.alloc_ HX4.out _) _) _) hgr5 (fun k hk => (HO4.out.lt k hk).1))
       have HO5 := Lib.hid hown5
       have g9 : w5.cell? ⟨w.heap.size + 2, 7, none⟩ = some (.slice t.s7.a t.s7.n t.s7.c) := (H9.out w5 HX5.out 7).trans rfl
       have gf9 := HF.out w5 HX5.out 7
       clear hown5 hgr5)
    | (go_at_call 15; refine (kpick_spec _ _ (by decide) (by decide) _).mono ?_; rintro e w' ⟨rfl, rfl⟩; rw [HP.out]; have hc4 := HC.out w4))
  all_goals
    obtain ⟨hrg, hr6, hTF, hxF⟩ := oth_end (f := 7) (t := t) (t' := { t with s7 := ⟨A5, _, c5⟩ }) (T' := { T with ext := L5 }) H9.out HR.out HB3.out HX5.out HG.out { (HT3.out.ext_ HX5.out) with ext := OwnMp.maps0 HO5.out } rfl rfl (fun k hk => by
      match k with
      | 0 | 1 | 2 | 3 | 4 | 5 | 6 | 8 | 9 | 10 | 11 => rfl
      | 7 => exact absurd rfl hk
      | k + 12 => rfl)
    have HRG := Lib.hid hrg
    have HR6 := Lib.hid hr6
    have HTF := Lib.hid hTF
    have HXF := Lib.hid hxF
    clear hrg hr6 hTF hxF
    refine wp_region_lit ?_
    refine wpList_load_mid rfl _ _ rfl (w.heap.size + 2) 0 rfl _ _ HRG.out Tryz.underlying26 rfl (by kernel_rfl) ?_
    refine wpList_store_row rfl _ _ _ rfl (w.heap.size + 1) _ rfl rfl 26 nil12 HR6.out (by kernel_rfl) rfl (tv_all { t with s7 := ⟨A5, _, c5⟩ }) ?_
    go_wp2_with fail
    refine bodyPost_ret (v := TV.v { t with s7 := ⟨A5, _, c5⟩ }) (results_cell_row (p := 8) (ty := 26) (by kernel_rfl) _ _ (w.heap.size + 1) 26 _ (0, 0) _ (by first | rfl | simp [Act.put]) (setRow_heap _ _ _ _ _ _ HR6.out) Tryz.underlying26 rfl (by kernel_rfl)) rfl ⟨_, _, rfl, HTF.out, HXF.out⟩

set_option maxHeartbeats 12800000 in
set_option maxRecDepth 100000 in
theorem other_k11 (t : TV) (T : Tbl) (how q v : Int) (w : World) (ht : TblS w t T) (hs : Small T) (hk : pickV how 12 = (11 : Nat)) :
    Calls Tryz.prog 16 #[t.v, .int .i64 how, .int .i64 q, .int .i64 v] w (OtherPost w) := by
  have HK := Lib.hid hk
  have HG := Lib.hid ht.glob
  have HSM := Lib.hid hs
  obtain ⟨w3, hw3⟩ : ∃ w3, w3 = (((w.alloc (.cells #[.slice t.s0.a t.s0.n t.s0.c, .slice t.s1.a t.s1.n t.s1.c, .slice t.s2.a t.s2.n t.s2.c, .slice t.s3.a t.s3.n t.s3.c, .slice t.s4.a t.s4.n t.s4.c, .slice t.s5.a t.s5.n t.s5.c, .slice t.s6.a t.s6.n t.s6.c, .slice t.s7.a t.s7.n t.s7.c, .slice t.s8.a t.s8.n t.s8.c, .slice t.s9.a t.s9.n t.s9.c, .slice t.s10.a t.s10.n t.s10.c, .slice t.s11.a t.s11.n t.s11.c] 26))).alloc (.cells #[.slice none 0 0, .slice none 0 0, .slice none 0 0, .slice none 0 0, .slice none 0 0, .slice none 0 0, .slice none 0 0, .slice none 0 0, .slice none 0 0, .slice none 0 0, .slice none 0 0, .slice none 0 0] 26)).alloc (.cells #[.slice t.s0.a t.s0.n t.s0.c, .slice t.s1.a t.s1.n t.s1.c, .slice t.s2.a t.s2.n t.s2.c, .slice t.s3.a t.s3.n t.s3.c, .slice t.s4.a t.s4.n t.s4.c, .slice t.s5.a t.s5.n t.s5.c, .slice t.s6.a t.s6.n t.s6.c, .slice t.s7.a t.s7.n t.s7.c, .slice t.s8.a t.s8.n t.s8.c, .slice t.s9.a t.s9.n t.s9.c, .slice t.s10.a t.s10.n t.s10.c, .slice t.s11.a t.s11.n t.s11.c] 26) := ⟨_, rfl⟩
  have hx12 : Ext w (((w.alloc (.cells #[.slice t.s0.a t.s0.n t.s0.c, .slice t.s1.a t.s1.n t.s1.c, .slice t.s2.a t.s2.n t.s2.c, .slice t.s3.a t.s3.n t.s3.c, .slice t.s4.a t.s4.n t.s4.c, .slice t.s5.a t.s5.n t.s5.c, .slice t.s6.a t.s6.n t.s6.c, .slice t.s7.a t.s7.n t.s7.c, .slice t.s8.a t.s8.n t.s8.c, .slice t.s9.a t.s9.n t.s9.c, .slice t.s10.a t.s10.n t.s10.c, .slice t.s11.a t.s11.n t.s11.c] 26))).alloc (.cells #[.slice none 0 0, .slice none 0 0, .slice none 0 0, .slice none 0 0, .slice none 0 0, .slice none 0 0, .slice none 0 0, .slice none 0 0, .slice none 0 0, .slice none 0 0, .slice none 0 0, .slice none 0 0] 26)) := ((Ext.refl _).alloc_ _).alloc_ _
  have hx13 : Ext (w.alloc (.cells #[.slice t.s0.a t.s0.n t.s0.c, .slice t.s1.a t.s1.n t.s1.c, .slice t.s2.a t.s2.n t.s2.c, .slice t.s3.a t.s3.n t.s3.c, .slice t.s4.a t.s4.n t.s4.c, .slice t.s5.a t.s5.n t.s5.c, .slice t.s6.a t.s6.n t.s6.c, .slice t.s7.a t.s7.n t.s7.c, .slice t.s8.a t.s8.n t.s8.c, .slice t.s9.a t.s9.n t.s9.c, .slice t.s10.a t.s10.n t.s10.c, .slice t.s11.a t.s11.n t.s11.c] 26)) w3 := by rw [hw3]; exact ((Ext.refl _).alloc_ _).alloc_ _
  have hx23 : Ext (((w.alloc (.cells #[.slice t.s0.a t.s0.n t.s0.c, .slice t.s1.a t.s1.n t.s1.c, .slice t.s2.a t.s2.n t.s2.c, .slice t.s3.a t.s3.n t.s3.c, .slice t.s4.a t.s4.n t.s4.c, .slice t.s5.a t.s5.n t.s5.c, .slice t.s6.a t.s6.n t.s6.c, .slice t.s7.a t.s7.n t.s7.c, .slice t.s8.a t.s8.n t.s8.c, .slice t.s9.a t.s9.n t.s9.c, .slice t.s10.a t.s10.n t.s10.c, .slice t.s11.a t.s11.n t.s11.c] 26))).alloc (.cells #[.slice none 0 0, .slice none 0 0, .slice none 0 0, .slice none 0 0, .slice none 0 0, .slice none 0 0, .slice none 0 0, .slice none 0 0, .slice none 0 0, .slice none 0 0, .slice none 0 0, .slice none 0 0] 26)) w3 := by rw [hw3]; exact (Ext.refl _).alloc_ _
  have z2 : (((w.alloc (.cells #[.slice t.s0.a t.s0.n t.s0.c, .slice t.s1.a t.s1.n t.s1.c, .slice t.s2.a t.s2.n t.s2.c, .slice t.s3.a t.s3.n t.s3.c, .slice t.s4.a t.s4.n t.s4.c, .slice t.s5.a t.s5.n t.s5.c, .slice t.s6.a t.s6.n t.s6.c, .slice t.s7.a t.s7.n t.s7.c, .slice t.s8.a t.s8.n t.s8.c, .slice t.s9.a t.s9.n t.s9.c, .slice t.s10.a t.s10.n t.s10.c, .slice t.s11.a t.s11.n t.s11.c] 26))).alloc (.cells #[.slice none 0 0, .slice none 0 0, .slice none 0 0, .slice none 0 0, .slice none 0 0, .slice none 0 0, .slice none 0 0, .slice none 0 0, .slice none 0 0, .slice none 0 0, .slice none 0 0, .slice none 0 0] 26)).heap.size = w.heap.size + 2 := by simp
  have z3 : w3.heap.size = w.heap.size + 3 := by rw [hw3]; simp
  have HB3 := Lib.hid (hx12.trans' hx23)
  have HT3 := Lib.hid (ht.ext_ HB3.out)
  have H4 : Hid (∀ w', Ext w3 w' → ∀ k : Nat, w'.cell? ⟨w.heap.size, k, none⟩ = t.v.cells[k]?) := Lib.hid (fun w' hw' => box_at (hx13.trans' hw'))
  have H9 : Hid (∀ w', Ext w3 w' → ∀ k : Nat, w'.cell? ⟨w.heap.size + 2, k, none⟩ = t.v.cells[k]?) := Lib.hid (fun w' hw' k => by
    rw [hw'.b.cell (p := ⟨w.heap.size + 2, k, none⟩) (by show w.heap.size + 2 < _; omega), hw3, ← z2]
    exact World.cell?_alloc_new _ _ _ k)
  have HF : Hid (∀ w', Ext w3 w' → ∀ k : Nat, w'.frozen? ⟨w.heap.size + 2, k, none⟩ = false) := Lib.hid (fun w' hw' k => by
    rw [hw'.b.frozen (p := ⟨w.heap.size + 2, k, none⟩) (by show w.heap.size + 2 < _; omega), hw3]
    exact World.frozen?_alloc_at _ _ _ _ z2.symm)
  have HR : Hid (∀ w', Ext w3 w' → w'.heap[w.heap.size + 1]? = some (.cells nil12 26 (0, 0))) := Lib.hid (fun w' hw' => by
    rw [hw'.b.block _ (by omega), hx23.b.block _ (by omega)]
    have h := heap_alloc_new ((w.alloc (.cells #[.slice t.s0.a t.s0.n t.s0.c, .slice t.s1.a t.s1.n t.s1.c, .slice t.s2.a t.s2.n t.s2.c, .slice t.s3.a t.s3.n t.s3.c, .slice t.s4.a t.s4.n t.s4.c, .slice t.s5.a t.s5.n t.s5.c, .slice t.s6.a t.s6.n t.s6.c, .slice t.s7.a t.s7.n t.s7.c, .slice t.s8.a t.s8.n t.s8.c, .slice t.s9.a t.s9.n t.s9.c, .slice t.s10.a t.s10.n t.s10.c, .slice t.s11.a t.s11.n t.s11.c] 26))) (.cells #[.slice none 0 0, .slice none 0 0, .slice none 0 0, .slice none 0 0, .slice none 0 0, .slice none 0 0, .slice none 0 0, .slice none 0 0, .slice none 0 0, .slice none 0 0, .slice none 0 0, .slice none 0 0] 26)
    rw [show ((w.alloc (.cells #[.slice t.s0.a t.s0.n t.s0.c, .slice t.s1.a t.s1.n t.s1.c, .slice t.s2.a t.s2.n t.s2.c, .slice t.s3.a t.s3.n t.s3.c, .slice t.s4.a t.s4.n t.s4.c, .slice t.s5.a t.s5.n t.s5.c, .slice t.s6.a t.s6.n t.s6.c, .slice t.s7.a t.s7.n t.s7.c, .slice t.s8.a t.s8.n t.s8.c, .slice t.s9.a t.s9.n t.s9.c, .slice t.s10.a t.s10.n t.s10.c, .slice t.s11.a t.s11.n t.s11.c] 26))).heap.size = w.heap.size + 1 from by simp] at h
    exact h)
  clear hk ht hs hx12 hx13 hx23 z2
  go_enter Tryz.func16, Tryz.ntmps16
  go_wp2_with fail
  refine (kpick_spec how 12 (by decide) (by decide) _).mono ?_
  rintro e w' ⟨rfl, rfl⟩
  rw [HK.out, ← hw3]
  clear hw3
  have r4 := H4.out w3 (Ext.refl _)
  have hv2 := pickV_bd v (n := 2) (by decide)
  obtain ⟨p, hp⟩ : ∃ p : Nat, pickV v 2 = p := ⟨(pickV v 2).toNat, by omega⟩
  have hp2 : p < 2 := by omega
  have HP := Lib.hid hp
  clear hv2 hp
  match p, hp2 with
  | 0, _ =>
    go_upto_region 28 with (first
      | (at_builtin
         refine wpList_copy_mps rfl _ _ rfl w3.heap.size rfl rfl HT3.out.dec (by have h1 : t.s9.n = T.dec.length := HT3.out.dec.1.1; have h2 := HSM.out.dec; omega) (Nat.le_refl _) ?_
         intro A4 c4 w4 hown4 hgr4 hbl4
         have HX4 : Hid (Ext w3 w4) := Lib.hid (ext_of_grown (Ext.refl _) hgr4 (by intro k hk; cases hk))
         have HO4 := Lib.hid hown4
         have hz4 : w3.heap.size ≤ w4.heap.size := HX4.out.b.size
         have HL4 := Lib.hid hbl4
         clear hbl4
         clear hown4 hgr4)
      | (at_builtin
         refine wpList_append_lit2 rfl _ _ rfl (blkOf A4).toList w3.heap.size rfl rfl (by simp) (own_alloc (own_alloc HO4.out _) _) (ints_alloc (IntS.hide_ (one_int' (by simp) _) (fun h => by have h1 := HL4.out _ h; omega)) _) (IntS.hide_ (ints_at (by simp) [98, 131072] _ (by simp [maxLen])) (fun h => by have h1 := HL4.out _ h; omega)) (fun b hb => by simp [hb]) (by have h1 : t.s9.n = T.dec.length := HT3.out.dec.1.1; have h2 := HSM.out.dec; omega) (by have h1 := hz4; simp; omega) ?_
         intro A5 c5 w5 M5 L5 hown5 hgr5
         have HX5 : Hid (Ext w3 w5) := Lib.hid (ext_of_grown (Ext.alloc_ (Ext.alloc_ (Ext.alloc_ HX4.out _) _) _) hgr5 (fun k hk => (HO4.out.lt k hk).1))
         have HO5 := Lib.hid hown5
         have g9 : w5.cell? ⟨w.heap.size + 2, 9, none⟩ = some (.slice t.s9.a t.s9.n t.s9.c) := (H9.out w5 HX5.out 9).trans rfl
         have gf9 := HF.out w5 HX5.out 9
         clear hown5 hgr5)
      | (go_at_call 15; refine (kpick_spec _ _ (by decide) (by decide) _).mono ?_; rintro e w' ⟨rfl, rfl⟩; rw [HP.out]))
    all_goals
      obtain ⟨hrg, hr6, hTF, hxF⟩ := oth_end (f := 9) (t := t) (t' := { t with s9 := ⟨A5, _, c5⟩ }) (T' := { T with dec := L5 }) H9.out HR.out HB3.out HX5.out HG.out { (HT3.out.ext_ HX5.out) with dec := OwnMp.maps0 HO5.out } rfl rfl (fun k hk => by
        match k with
        | 0 | 1 | 2 | 3 | 4 | 5 | 6 | 7 | 8 | 10 | 11 => rfl
        | 9 => exact absurd rfl hk
        | k + 12 => rfl)
      have HRG := Lib.hid hrg
      have HR6 := Lib.hid hr6
      have HTF := Lib.hid hTF
      have HXF := Lib.hid hxF
      clear hrg hr6 hTF hxF
      refine wp_region_lit ?_
      refine wpList_load_mid rfl _ _ rfl (w.heap.size + 2) 0 rfl _ _ HRG.out Tryz.underlying26 rfl (by kernel_rfl) ?_
      refine wpList_store_row rfl _ _ _ rfl (w.heap.size + 1) _ rfl rfl 26 nil12 HR6.out (by kernel_rfl) rfl (tv_all { t with s9 := ⟨A5, _, c5⟩ }) ?_
      go_wp2_with fail
      refine bodyPost_ret (v := TV.v { t with s9 := ⟨A5, _, c5⟩ }) (results_cell_row (p := 8) (ty := 26) (by kernel_rfl) _ _ (w.heap.size + 1) 26 _ (0, 0) _ (by first | rfl | simp [Act.put]) (setRow_heap _ _ _ _ _ _ HR6.out) Tryz.underlying26 rfl (by kernel_rfl)) rfl ⟨_, _, rfl, HTF.out, HXF.out⟩

  | 1, _ =>
    go_upto_region 28 with (first
      | (at_builtin
         refine wpList_copy_mps rfl _ _ rfl w3.heap.size rfl rfl HT3.out.dec (by have h1 : t.s9.n = T.dec.length := HT3.out.dec.1.1; have h2 := HSM.out.dec; omega) (Nat.le_refl _) ?_
         intro A4 c4 w4 hown4 hgr4 hbl4
         have HX4 : Hid (Ext w3 w4) := Lib.hid (ext_of_grown (Ext.refl _) hgr4 (by intro k hk; cases hk))
         have HO4 := Lib.hid hown4
         have hz4 : w3.heap.size ≤ w4.heap.size := HX4.out.b.size
         have HL4 := Lib.hid hbl4
         clear hbl4
         clear hown4 hgr4)
      | (at_builtin
         refine wpList_append_lit2 rfl _ _ rfl (blkOf A4).toList w3.heap.size rfl rfl (by simp) (own_alloc (own_alloc HO4.out _) _) (ints_alloc (IntS.hide_ (one_int' (by simp) _) (fun h => by have h1 := HL4.out _ h; omega)) _) (IntS.hide_ (IntS.drop1 (ints_at (by simp) [98, 131072] _ (by simp [maxLen])) rfl rfl (by simp)) (fun h => by have h1 := HL4.out _ h; omega)) (fun b hb => by simp [hb]) (by have h1 : t.s9.n = T.dec.length := HT3.out.dec.1.1; have h2 := HSM.out.dec; omega) (by have h1 := hz4; simp; omega) ?_
         intro A5 c5 w5 M5 L5 hown5 hgr5
         have HX5 : Hid (Ext w3 w5) := Lib.hid (ext_of_grown (Ext.alloc_ (Ext.alloc_ (Ext.alloc_ HX4.out _) _) _) hgr5 (fun k hk => (HO4.out.lt k hk).1))
         have HO5 := Lib.hid hown5
         have g9 : w5.cell? ⟨w.heap.size + 2, 9, none⟩ = some (.slice t.s9.a t.s9.n t.s9.c) := (H9.out w5 HX5.out 9).trans rfl
         have gf9 := HF.out w5 HX5.out 9
         clear hown5 hgr5)
      | (go_at_call 15; refine (kpick_spec _ _ (by decide) (by decide) _).mono ?_; rintro e w' ⟨rfl, rfl⟩; rw [HP.out]))
    all_goals
      obtain ⟨hrg, hr6, hTF, hxF⟩ := oth_end (f := 9) (t := t) (t' := { t with s9 := ⟨A5, _, c5⟩ }) (T' := { T with dec := L5 }) H9.out HR.out HB3.out HX5.out HG.out { (HT3.out.ext_ HX5.out) with dec := OwnMp.maps0 HO5.out } rfl rfl (fun k hk => by
        match k with
        | 0 | 1 | 2 | 3 | 4 | 5 | 6 | 7 | 8 | 10 | 11 => rfl
        | 9 => exact absurd rfl hk
        | k + 12 => rfl)
      have HRG := Lib.hid hrg
      have HR6 := Lib.hid hr6
      have HTF := Lib.hid hTF
      have HXF := Lib.hid hxF
      clear hrg hr6 hTF hxF
      refine wp_region_lit ?_
      refine wpList_load_mid rfl _ _ rfl (w.heap.size + 2) 0 rfl _ _ HRG.out Tryz.underlying26 rfl (by kernel_rfl) ?_
      refine wpList_store_row rfl _ _ _ rfl (w.heap.size + 1) _ rfl rfl 26 nil12 HR6.out (by kernel_rfl) rfl (tv_all { t with s9 := ⟨A5, _, c5⟩ }) ?_
      go_wp2_with fail
      refine bodyPost_ret (v := TV.v { t with s9 := ⟨A5, _, c5⟩ }) (results_cell_row (p := 8) (ty := 26) (by kernel_rfl) _ _ (w.heap.size + 1) 26 _ (0, 0) _ (by first | rfl | simp [Act.put]) (setRow_heap _ _ _ _ _ _ HR6.out) Tryz.underlying26 rfl (by kernel_rfl)) rfl ⟨_, _, rfl, HTF.out, HXF.out⟩

end Go.Proofs.YtmgckljgkdahfaaGreatDoor
