/- Walk: keep.Other, more of its cases. (By program: ot_gen.py.) -/
import Derived.Test.YtmgckljgkdahfaaGreatDoorOt
import Derived.Deep.RegionLaw
import Derived.Deep.CutRange
import Derived.Laws.Tables
import Derived.Laws.Rows
import Derived.Deep.MidRow
namespace Go.Proofs.YtmgckljgkdahfaaGreatDoor
open Go.RowKit

theorem own_lit1 (w : World) (base : Nat) (hb : base ≤ w.heap.size) (a b c : Int) : OwnSp (w.alloc (.cells #[.int .i64 a, .int .i64 b, .int .i64 c] 54)) base (some ⟨w.heap.size, 0, none⟩) 1 1 [⟨a, b, c⟩] :=
  World.ownsRow_lit w #[.int .i64 a, .int .i64 b, .int .i64 c] 1 hb (by simp [maxLen]) rfl

set_option maxHeartbeats 12800000 in
set_option maxRecDepth 100000 in
theorem other_k2 (t : TV) (T : Tbl) (how q v : Int) (w : World) (ht : TblS w t T) (hs : Small T) (hk : pickV how 12 = (2 : Nat)) :
    Calls Tryz.prog 16 #[t.v, .int .i64 how, .int .i64 q, .int .i64 v] w (OtherPost w) := by
  have HK := Lib.hid hk
  have HG := Lib.hid ht.glob
  have HSM := Lib.hid hs
  obtain ⟨w3, hw3⟩ : ∃ w3, w3 = (((w.alloc (.cells #[.slice t.s0.a t.s0.n t.s0.c, .slice t.s1.a t.s1.n t.s1.c, .slice t.s2.a t.s2.n t.s2.c, .slice t.s3.a t.s3.n t.s3.c, .slice t.s4.a t.s4.n t.s4.c, .slice t.s5.a t.s5.n t.s5.c, .slice t.s6.a t.s6.n t.s6.c, .slice t.s7.a t.s7.n t.s7.c, .slice t.s8.a t.s8.n t.s8.c, .slice t.s9.a t.s9.n t.s9.c, .slice t.s10.a t.s10.n t.s10.c, .slice t.s11.a t.s11.n t.s11.c] 26))).alloc (.cells #[.slice none 0 0, .slice none 0 0, .slice none 0 0, .slice none 0 0, .slice none 0 0, .slice none 0 0, .slice none 0 0, .slice none 0 0, .slice none 0 0, .slice none 0 0, .slice none 0 0, .slice none 0 0] 26)).alloc (.cells #[.slice t.s0.a t.s0.n t.s0.c, .slice t.s1.a t.s1.n t.s1.c, .slice t.s2.a t.s2.n t.s2.c, .slice t.s3.a t.s3.n t.s3.c, .slice t.s4.a t.s4.n t.s4.c, .slice t.s5.a t.s5.n t.s5.c, .slice t.s6.a t.s6.n t.s6.c, .slice t.s7.a t.s7.n t.s7.c, .slice t.s8.a t.s8.n t.s8.c, .slice t.s9.a t.s9.n t.s9.c, .slice t.s10.a t.s10.n t.s10.c, .slice t.s11.a t.s11.n t.s11.c] 26) := ⟨_, rfl⟩
  have hx12 : Ext w (((w.alloc (.cells #[.slice t.s0.a t.s0.n t.s0.c, .slice t.s1.a t.s1.n t.s1.c, .slice t.s2.a t.s2.n t.s2.c, .slice t.s3.a t.s3.n t.s3.c, .slice t.s4.a t.s4.n t.s4.c, .slice t.s5.a t.s5.n t.s5.c, .slice t.s6.a t.s6.n t.s6.c, .slice t.s7.a t.s7.n t.s7.c, .slice t.s8.a t.s8.n t.s8.c, .slice t.s9.a t.s9.n t.s9.c, .slice t.s10.a t.s10.n t.s10.c, .slice t.s11.a t.s11.n t.s11.c] 26))).alloc (.cells #[.slice none 0 0, .slice none 0 0, .slice none 0 0, .slice none 0 0, .slice none 0 0, .slice none 0 0, .slice none 0 0, .slice none 0 0, .slice none 0 0, .slice none 0 0, .slice none 0 0, .slice none 0 0] 26)) := ((Ext.refl _).alloc_ _).alloc_ _
  have hx13 : Ext (w.alloc (.cells #[.slice t.s0.a t.s0.n t.s0.c, .slice t.s1.a t.s1.n t.s1.c, .slice t.s2.a t.s2.n t.s2.c, .slice t.s3.a t.s3.n t.s3.c, .slice t.s4.a t.s4.n t.s4.c, .slice t.s5.a t.s5.n t.s5.c, .slice t.s6.a t.s6.n t.s6.c, .slice t.s7.a t.s7.n t.s7.c, .slice t.s8.a t.s8.n t.s8.c, .slice t.s9.a t.s9.n t.s9.c, .slice t.s10.a t.s10.n t.s10.c, .slice t.s11.a t.s11.n t.s11.c] 26)) w3 := by rw [hw3]; exact ((Ext.refl _).alloc_ _).alloc_ _
  have hx23 : Ext (((w.alloc (.cells #[.slice t.s0.a t.s0.n t.s0.c, .slice t.s1.a t.s1.n t.s1.c, .slice t.s2.a t.s2.n t.s2.c, .slice t.s3.a t.s3.n t.s3.c, .slice t.s4.a t.s4.n t.s4.c, .slice t.s5.a t.s5.n t.s5.c, .slice t.s6.a t.s6.n t.s6.c, .slice t.s7.a t.s7.n t.s7.c, .slice t.s8.a t.s8.n t.s8.c, .slice t.s9.a t.s9.n t.s9.c, .slice t.s10.a t.s10.n t.s10.c, .slice t.s11.a t.s11.n t.s11.c] 26))).alloc (.cells #[.slice none 0 0, .slice none 0 0, .slice none 0 0, .slice none 0 0, .slice none 0 0, .slice none 0 0, .slice none 0 0, .slice none 0 0, .slice none 0 0, .slice none 0 0, .slice none 0 0, .slice none 0 0] 26)) w3 := by rw [hw3]; exact (Ext.refl _).alloc_ _
  have z2 : (((w.alloc (.cells #[.slice t.s0.a t.s0.n t.s0.c, .slice t.s1.a t.s1.n t.s1.c, .slice t.s2.a t.s2.n t.s2.c, .slice t.s3.a t.s3.n t.s3.c, .slice t.s4.a t.s4.n t.s4.c, .slice t.s5.a t.s5.n t.s5.c, .slice t.s6.a t.s6.n t.s6.c, .slice t.s7.a t.s7.n t.s7.c, .slice t.s8.a t.s8.n t.s8.c, .slice t.s9.a t.s9.n t.s9.c, .slice t.s10.a t.s10.n t.s10.c, .slice t.s11.a t.s11.n t.s11.c] 26))).alloc (.cells #[.slice none 0 0, .slice none 0 0, .slice none 0 0, .slice none 0 0, .slice none 0 0, .slice none 0 0, .slice none 0 0, .slice none 0 0, .slice none 0 0, .slice none 0 0, .slice none 0 0, .slice none 0 0] 26)).heap.size = w.heap.size + 2 := by simp
  have z3 : w3.heap.size = w.heap.size + 3 := by rw [hw3]; simp
  have HB3 := Lib.hid (hx12.trans' hx23)
  have HT3 := Lib.hid (ht.ext_ HB3.out)
  have H4 : Hid (∀ w', Ext w3 w' → ∀ k : Nat, w'.cell? ⟨w.heap.size, k, none⟩ = t.v.cells[k]?) := Lib.hid (fun w' hw' => box_at (hx13.trans' hw'))
  have H9 : Hid (∀ w', Ext w3 w' → ∀ k : Nat, w'.cell? ⟨w.heap.size + 2, k, none⟩ = t.v.cells[k]?) := Lib.hid (fun w' hw' k => by
    rw [hw'.b.cell (p := ⟨w.heap.size + 2, k, none⟩) (by show w.heap.size + 2 < _; omega), hw3, ← z2]
    exact World.cell?_alloc_new _ _ _ k)
  have HF : Hid (∀ w', Ext w3 w' → ∀ k : Nat, w'.frozen? ⟨w.heap.size + 2, k, none⟩ = false) := Lib.hid (fun w' hw' k => by
    rw [hw'.b.frozen (p := ⟨w.heap.size + 2, k, none⟩) (by show w.heap.size + 2 < _; omega), hw3]
    exact World.frozen?_alloc_at _ _ _ _ z2.symm)
  have HR : Hid (∀ w', Ext w3 w' → w'.heap[w.heap.size + 1]? = some (.cells nil12 26 (0, 0))) := Lib.hid (fun w' hw' => by
    rw [hw'.b.block _ (by omega), hx23.b.block _ (by omega)]
    have h := heap_alloc_new ((w.alloc (.cells #[.slice t.s0.a t.s0.n t.s0.c, .slice t.s1.a t.s1.n t.s1.c, .slice t.s2.a t.s2.n t.s2.c, .slice t.s3.a t.s3.n t.s3.c, .slice t.s4.a t.s4.n t.s4.c, .slice t.s5.a t.s5.n t.s5.c, .slice t.s6.a t.s6.n t.s6.c, .slice t.s7.a t.s7.n t.s7.c, .slice t.s8.a t.s8.n t.s8.c, .slice t.s9.a t.s9.n t.s9.c, .slice t.s10.a t.s10.n t.s10.c, .slice t.s11.a t.s11.n t.s11.c] 26))) (.cells #[.slice none 0 0, .slice none 0 0, .slice none 0 0, .slice none 0 0, .slice none 0 0, .slice none 0 0, .slice none 0 0, .slice none 0 0, .slice none 0 0, .slice none 0 0, .slice none 0 0, .slice none 0 0] 26)
    rw [show ((w.alloc (.cells #[.slice t.s0.a t.s0.n t.s0.c, .slice t.s1.a t.s1.n t.s1.c, .slice t.s2.a t.s2.n t.s2.c, .slice t.s3.a t.s3.n t.s3.c, .slice t.s4.a t.s4.n t.s4.c, .slice t.s5.a t.s5.n t.s5.c, .slice t.s6.a t.s6.n t.s6.c, .slice t.s7.a t.s7.n t.s7.c, .slice t.s8.a t.s8.n t.s8.c, .slice t.s9.a t.s9.n t.s9.c, .slice t.s10.a t.s10.n t.s10.c, .slice t.s11.a t.s11.n t.s11.c] 26))).heap.size = w.heap.size + 1 from by simp] at h
    exact h)
  clear hk ht hs hx12 hx13 hx23 z2
  go_enter Tryz.func16, Tryz.ntmps16
  go_wp2_with fail
  refine (kpick_spec how 12 (by decide) (by decide) _).mono ?_
  rintro e w' ⟨rfl, rfl⟩
  rw [HK.out, ← hw3]
  clear hw3
  have r4 := H4.out w3 (Ext.refl _)
  go_upto_region 9 with fail
  refine region_xk [w.heap.size + 2, w3.heap.size] [([0, 2, 6, 7], 1), ([], 3), ([4], 5), ([], 8), ([9], 10)] [] (by kernel_rfl) (by kernel_rfl) ?_
  have HD : Hid (Ext w3 w3.drew) := Lib.hid (Ext.refl _).drew_
  have zD : w3.drew.heap.size = w3.heap.size := rfl
  refine segWK_cons (by repeat (first | exact OpsAre.nil | exact OpAt.zero | apply OpAt.succ | apply OpsAre.cons)) (by repeat (first | exact OpAt.zero | apply OpAt.succ)) ?_
  have rT : ∀ yy : KpW [w.heap.size + 2, w3.heap.size] w3.drew, ∀ k : Nat, yy.w.cell? ⟨w.heap.size, k, none⟩ = t.v.cells[k]? := fun yy k => (yy.h.cell ⟨w.heap.size, k, none⟩ (by show w.heap.size < _; omega) (by simp; omega)).trans (H4.out _ HD.out k)
  repeat (go_big_quiet_step (fail))
  refine wpQuiet_nil ?_
  clear rT
  go_wp2_with fail
  refine (kpick_spec _ _ (by decide) (by decide) _).mono ?_
  rintro e w' ⟨rfl, rfl⟩
  go_wp2_with fail
  refine segKK_mk (Kp.refl _ _) ?_
  refine segWK_cons (by repeat (first | exact OpsAre.nil | exact OpAt.zero | apply OpAt.succ | apply OpsAre.cons)) (by repeat (first | exact OpAt.zero | apply OpAt.succ)) ?_
  refine wpQuiet_nil ?_
  go_wp2_with fail
  refine (kpick_spec _ _ (by decide) (by decide) _).mono ?_
  rintro e w' ⟨rfl, rfl⟩
  go_wp2_with fail
  refine segKK_mk (Kp.refl _ _) ?_
  refine segWK_cons (by repeat (first | exact OpsAre.nil | exact OpAt.zero | apply OpAt.succ | apply OpsAre.cons)) (by repeat (first | exact OpAt.zero | apply OpAt.succ)) ?_
  repeat (go_big_quiet_step (fail))
  refine wpQuiet_nil ?_
  go_wp2_with fail
  refine segKK_mk (Kp.ofExt ((Ext.refl _).alloc_ _)) ?_
  refine segWK_cons (by repeat (first | exact OpsAre.nil | exact OpAt.zero | apply OpAt.succ | apply OpsAre.cons)) (by repeat (first | exact OpAt.zero | apply OpAt.succ)) ?_
  refine wpQuiet_nil ?_
  go_wp2_with (at_builtin
               refine wpList_append_spans rfl _ _ rfl w3.heap.size rfl (show OwnSp _ w3.heap.size (some ⟨w.heap.size + 3, 0, none⟩) 1 1 [⟨pickV v 300, pickV v 300, 1⟩] from by rw [← z3]; exact own_lit1 w3.drew w3.heap.size (Nat.le_refl _) _ _ _) rfl ((HT3.out.ext_ (HD.out.alloc_ _)).cat) (by have h1 : t.s0.n = T.cat.length := HT3.out.cat.1.1; have h2 := HSM.out.cat; omega) (by simp <;> omega) ?_
               intro A5 c5 w5 hown5 hgr5 _
               obtain ⟨L5, hown5⟩ : ∃ L5, OwnSp w5 w3.heap.size A5 _ c5 L5 := ⟨_, hown5⟩
               have HX5 : Hid (Ext w3 w5) := Lib.hid (ext_of_grown (HD.out.alloc_ _) hgr5 (fun k hk => by simp [blkOf] at hk <;> omega))
               have HKX := Lib.hid (Kp.ofGrown (M := [w.heap.size + 2, w.heap.size + 3]) hgr5 (fun k hk => by simp [blkOf] at hk <;> simp [← hk]))
               have HO5 := Lib.hid hown5)
  refine segKK_mk HKX.out ?_
  have g9 : w5.cell? ⟨w.heap.size + 2, 0, none⟩ = some (.slice t.s0.a t.s0.n t.s0.c) := (H9.out w5 HX5.out 0).trans rfl
  have gf9 := HF.out w5 HX5.out 0
  refine segWK_cons (by repeat (first | exact OpsAre.nil | exact OpAt.zero | apply OpAt.succ | apply OpsAre.cons)) (by repeat (first | exact OpAt.zero | apply OpAt.succ)) ?_
  repeat (go_big_quiet_step (fail))
  refine wpQuiet_nil ?_
  go_wp2_with fail
  refine segKK_mk (Kp.setCell _ _ _ _ (by simp)) ?_
  refine segWK_nil (by repeat (first | exact OpsAre.nil | exact OpAt.zero | apply OpAt.succ | apply OpsAre.cons)) ?_
  refine wpQuiet_nil ?_
  go_upto_region 28 with fail
  obtain ⟨hrg, hr6, hTF, hxF⟩ := oth_end (w5 := w5) (f := 0) (t := t) (t' := { t with s0 := ⟨A5, _, c5⟩ }) (T' := { T with cat := L5 }) H9.out HR.out HB3.out HX5.out HG.out { (HT3.out.ext_ HX5.out) with cat := OwnSp.spans HO5.out } rfl rfl (fun k hk => by
    match k with
    | 1 | 2 | 3 | 4 | 5 | 6 | 7 | 8 | 9 | 10 | 11 => rfl
    | 0 => exact absurd rfl hk
    | k + 12 => rfl)
  have HRG := Lib.hid hrg
  have HR6 := Lib.hid hr6
  have HTF := Lib.hid hTF
  have HXF := Lib.hid hxF
  clear hrg hr6 hTF hxF
  refine wp_region_lit ?_
  refine wpList_load_mid rfl _ _ rfl (w.heap.size + 2) 0 rfl _ _ HRG.out Tryz.underlying26 rfl (by kernel_rfl) ?_
  refine wpList_store_row rfl _ _ _ rfl (w.heap.size + 1) _ rfl rfl 26 nil12 HR6.out (by kernel_rfl) rfl (tv_all { t with s0 := ⟨A5, _, c5⟩ }) ?_
  go_wp2_with fail
  refine bodyPost_ret (v := TV.v { t with s0 := ⟨A5, _, c5⟩ }) (results_cell_row (p := 8) (ty := 26) (by kernel_rfl) _ _ (w.heap.size + 1) 26 _ (0, 0) _ (by first | rfl | simp [Act.put]) (setRow_heap _ _ _ _ _ _ HR6.out) Tryz.underlying26 rfl (by kernel_rfl)) rfl ⟨_, _, rfl, HTF.out, HXF.out⟩

end Go.Proofs.YtmgckljgkdahfaaGreatDoor
