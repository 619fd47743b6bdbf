/- The law ComposeMade. (By program: km_gen.py.) -/
import Derived.Test.YtcjkikbnjadmfaaGreatDoorGw
import Derived.Test.YtcjkikbnjadmfaaGreatDoorGo
import Derived.Test.YtcjkikbnjadmfaaGreatDoorPt
import Derived.Test.YtcjkikbnjadmfaaGreatDoorGx
import Derived.Test.YtcjkikbnjadmfaaGreatDoorGt
import Derived.Test.YtcjkikbnjadmfaaGreatDoorGa
namespace Go.Proofs.YtcjkikbnjadmfaaGreatDoor
open Go.RowKit

set_option maxHeartbeats 3200000 in
set_option maxRecDepth 100000 in
theorem composeMade_spec (l m o : List Int) (A : Option Addr) (n c : Nat) (A2 : Option Addr) (n2 c2 : Nat) (A3 : Option Addr) (n3 c3 : Nat) (w : World) (h : IntS w ⟨A, n, c⟩ l) (h2 : IntS w ⟨A2, n2, c2⟩ m) (h3 : IntS w ⟨A3, n3, c3⟩ o) (hg : Glob w) :
    Calls Tryz.prog 3 #[.slice A n c, .slice A2 n2 c2, .slice A3 n3 c3] w fun e w' => e = .returned (.bool true) ∧ Ext w w' := by
  have HG := Lib.hid hg
  have HM := Lib.hid h2
  have HL := Lib.hid h
  have HO := Lib.hid h3
  clear hg h h2 h3
  go_enter Tryz.func3, Tryz.ntmps3
  go_wp2_with fail
  refine Calls.mono (tables_spec l A n c w HL.out HG.out) ?_
  rintro e w1 ⟨t, rfl, ht, hb1⟩
  have hx1 : Ext w1 (w1.alloc (.cells #[.slice t.s0.a t.s0.n t.s0.c, .slice t.s1.a t.s1.n t.s1.c, .slice t.s2.a t.s2.n t.s2.c, .slice t.s3.a t.s3.n t.s3.c, .slice t.s4.a t.s4.n t.s4.c, .slice t.s5.a t.s5.n t.s5.c, .slice t.s6.a t.s6.n t.s6.c, .slice t.s7.a t.s7.n t.s7.c, .slice t.s8.a t.s8.n t.s8.c, .slice t.s9.a t.s9.n t.s9.c, .slice t.s10.a t.s10.n t.s10.c, .slice t.s11.a t.s11.n t.s11.c] 26)) := (Ext.refl _).alloc_ _
  obtain ⟨w2, hw2⟩ : ∃ w2, w2 = (w1.alloc (.cells #[.slice t.s0.a t.s0.n t.s0.c, .slice t.s1.a t.s1.n t.s1.c, .slice t.s2.a t.s2.n t.s2.c, .slice t.s3.a t.s3.n t.s3.c, .slice t.s4.a t.s4.n t.s4.c, .slice t.s5.a t.s5.n t.s5.c, .slice t.s6.a t.s6.n t.s6.c, .slice t.s7.a t.s7.n t.s7.c, .slice t.s8.a t.s8.n t.s8.c, .slice t.s9.a t.s9.n t.s9.c, .slice t.s10.a t.s10.n t.s10.c, .slice t.s11.a t.s11.n t.s11.c] 26)) := ⟨_, rfl⟩
  have HRT : Hid (∀ w', Ext w2 w' → ∀ k : Nat, w'.cell? ⟨w1.heap.size, k, none⟩ = t.v.cells[k]?) := Lib.hid (by rw [hw2]; exact fun w' hw' => box_at hw')
  have HT : Hid (∀ w', Ext w2 w' → TblS w' t (madeT l)) := Lib.hid (by rw [hw2]; exact fun w' hw' => (ht.ext_ hx1).ext_ hw')
  have HB : Hid (Ext w w2) := Lib.hid (by rw [hw2]; exact hb1.trans' hx1)
  generalize madeT l = T at *
  clear ht hb1 hx1
  go_wp2_with fail
  rw [← hw2]
  clear hw2
  refine region_x [([], 0), ([1, 2, 3], 4), ([], 5), ([6, 7, 8, 9], 10), ([], 11), ([12, 13, 14, 15], 16)] [17, 18] (by kernel_rfl) (by kernel_rfl) ?_
  have HX : Hid (Ext w2 w2.drew) := Lib.hid (Ext.refl _).drew_
  refine segW_cons (by repeat (first | exact OpsAre.nil | exact OpAt.zero | apply OpAt.succ | apply OpsAre.cons)) (by repeat (first | exact OpAt.zero | apply OpAt.succ)) ?_
  refine wpQuiet_nil ?_
  go_wp2_with fail
  refine (c8awake_spec _ (HG.out.ext (HB.out.trans' HX.out))).mono ?_
  rintro e w3 ⟨rfl, hb3⟩
  go_wp2_with fail
  refine segK_mk hb3 ?_
  have HX := Lib.hid (HX.out.trans' hb3)
  refine segW_cons (by repeat (first | exact OpsAre.nil | exact OpAt.zero | apply OpAt.succ | apply OpsAre.cons)) (by repeat (first | exact OpAt.zero | apply OpAt.succ)) ?_
  have rT0 : ∀ yy : ExtW w3, ∀ k : Nat, yy.w.cell? ⟨w1.heap.size, k, none⟩ = t.v.cells[k]? := fun yy => HRT.out _ (HX.out.trans' yy.h)
  repeat (go_big_quiet_step (fail))
  refine wpQuiet_nil ?_
  clear rT0
  go_wp2_with fail
  refine Calls.mono (dense_spec m A2 n2 c2 _ (HM.out.ext (HB.out.trans' HX.out))) ?_
  rintro e w4 ⟨A4, n4, c4, rfl, hi4, hb4⟩
  go_wp2_with fail
  refine segK_mk hb4 ?_
  have HX := Lib.hid (HX.out.trans' hb4)
  have HI4 := Lib.hid hi4
  clear hi4
  refine segW_cons (by repeat (first | exact OpsAre.nil | exact OpAt.zero | apply OpAt.succ | apply OpsAre.cons)) (by repeat (first | exact OpAt.zero | apply OpAt.succ)) ?_
  refine wpQuiet_nil ?_
  go_wp2_with fail
  refine Calls.mono (c8agrees_spec T t (denseL m) A4 n4 c4 _ (HT.out _ HX.out) HI4.out) ?_
  rintro e w5 ⟨rfl, hb5⟩
  go_wp2_with fail
  refine segK_mk hb5 ?_
  have HX := Lib.hid (HX.out.trans' hb5)
  refine segW_cons (by repeat (first | exact OpsAre.nil | exact OpAt.zero | apply OpAt.succ | apply OpsAre.cons)) (by repeat (first | exact OpAt.zero | apply OpAt.succ)) ?_
  have rT0 : ∀ yy : ExtW w5, ∀ k : Nat, yy.w.cell? ⟨w1.heap.size, k, none⟩ = t.v.cells[k]? := fun yy => HRT.out _ (HX.out.trans' yy.h)
  repeat (go_big_quiet_step (fail))
  refine wpQuiet_nil ?_
  clear rT0
  go_wp2_with fail
  refine Calls.mono (kpoints_spec m A2 n2 c2 _ (HM.out.ext (HB.out.trans' HX.out))) ?_
  rintro e w6 ⟨A6, n6, c6, rfl, hi6, hb6⟩
  go_wp2_with fail
  refine segK_mk hb6 ?_
  have HX := Lib.hid (HX.out.trans' hb6)
  have HI6 := Lib.hid hi6
  clear hi6
  refine segW_cons (by repeat (first | exact OpsAre.nil | exact OpAt.zero | apply OpAt.succ | apply OpsAre.cons)) (by repeat (first | exact OpAt.zero | apply OpAt.succ)) ?_
  refine wpQuiet_nil ?_
  go_wp2_with fail
  refine Calls.mono (c8agrees_spec T t (pointsL m) A6 n6 c6 _ (HT.out _ HX.out) HI6.out) ?_
  rintro e w7 ⟨rfl, hb7⟩
  go_wp2_with fail
  refine segK_mk hb7 ?_
  have HX := Lib.hid (HX.out.trans' hb7)
  refine segW_cons (by repeat (first | exact OpsAre.nil | exact OpAt.zero | apply OpAt.succ | apply OpsAre.cons)) (by repeat (first | exact OpAt.zero | apply OpAt.succ)) ?_
  have rT0 : ∀ yy : ExtW w7, ∀ k : Nat, yy.w.cell? ⟨w1.heap.size, k, none⟩ = t.v.cells[k]? := fun yy => HRT.out _ (HX.out.trans' yy.h)
  repeat (go_big_quiet_step (fail))
  refine wpQuiet_nil ?_
  clear rT0
  go_wp2_with fail
  refine Calls.mono (c8agrees_spec T t o A3 n3 c3 _ (HT.out _ HX.out) (HO.out.ext (HB.out.trans' HX.out))) ?_
  rintro e w8 ⟨rfl, hb8⟩
  go_wp2_with fail
  refine segK_mk hb8 ?_
  have HX := Lib.hid (HX.out.trans' hb8)
  refine segW_nil (by repeat (first | exact OpsAre.nil | exact OpAt.zero | apply OpAt.succ | apply OpsAre.cons)) ?_
  repeat (go_big_quiet_step (fail))
  refine wpQuiet_nil ?_
  go_wp2_with fail
  go_ret
  exact ⟨rfl, HB.out.trans' HX.out⟩
end Go.Proofs.YtcjkikbnjadmfaaGreatDoor
