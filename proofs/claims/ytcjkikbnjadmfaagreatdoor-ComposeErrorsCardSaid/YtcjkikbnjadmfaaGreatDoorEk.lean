/- The law ComposeErrors. (By program: km_gen.py.) -/
import Derived.Test.YtcjkikbnjadmfaaGreatDoorGw
import Derived.Test.YtcjkikbnjadmfaaGreatDoorGo
import Derived.Test.YtcjkikbnjadmfaaGreatDoorGx
import Derived.Test.YtcjkikbnjadmfaaGreatDoorGt
import Derived.Test.YtcjkikbnjadmfaaGreatDoorUg
import Derived.Test.YtcjkikbnjadmfaaGreatDoorGa
import Derived.Test.YtcjkikbnjadmfaaGreatDoorOy
namespace Go.Proofs.YtcjkikbnjadmfaaGreatDoor
open Go.RowKit

set_option maxHeartbeats 6400000 in
set_option maxRecDepth 100000 in
theorem composeErrors_spec (l m : List Int) (how at_ v : Int) (t : TV) (T : Tbl) (A : Option Addr) (n c : Nat) (A2 : Option Addr) (n2 c2 : Nat) (w : World) (h : IntS w ⟨A, n, c⟩ l) (h2 : IntS w ⟨A2, n2, c2⟩ m) (ht : TblS w t T) (hg : Glob w) :
    Calls Tryz.prog 9 #[.slice A n c, .slice A2 n2 c2, .int .i64 how, .int .i64 at_, .int .i64 v, t.v] w fun e w' => e = .returned (.bool true) ∧ Ext w w' := by
  have HG := Lib.hid hg
  have HM := Lib.hid h2
  have HL := Lib.hid h
  have hba : Ext w (w.alloc (.cells #[.slice t.s0.a t.s0.n t.s0.c, .slice t.s1.a t.s1.n t.s1.c, .slice t.s2.a t.s2.n t.s2.c, .slice t.s3.a t.s3.n t.s3.c, .slice t.s4.a t.s4.n t.s4.c, .slice t.s5.a t.s5.n t.s5.c, .slice t.s6.a t.s6.n t.s6.c, .slice t.s7.a t.s7.n t.s7.c, .slice t.s8.a t.s8.n t.s8.c, .slice t.s9.a t.s9.n t.s9.c, .slice t.s10.a t.s10.n t.s10.c, .slice t.s11.a t.s11.n t.s11.c] 26)) := (Ext.refl _).alloc_ _
  have HT0 := Lib.hid ht
  have HBA := Lib.hid hba
  clear hg h h2 ht hba
  go_enter Tryz.func9, Tryz.ntmps9
  go_wp2_with fail
  refine Calls.mono (tables_spec l A n c _ (HL.out.ext HBA.out) (HG.out.ext HBA.out)) ?_
  rintro e w4 ⟨t1, rfl, ht1, hb4⟩
  have HW1 := Lib.hid (made_wf l)
  have HT1 := Lib.hid ht1
  have HB4 := Lib.hid hb4
  clear ht1 hb4
  go_wp2_with fail
  refine Calls.mono (other_spec t1 (madeT l) how at_ v _ HT1.out (small_wf HW1.out)) ?_
  rintro e w5 ⟨t2, T2, rfl, ht2, hb5⟩
  have hx6 : Ext w5 (w5.alloc (.cells t2.v.cells 26)) := (Ext.refl _).alloc_ _
  have HT2 := Lib.hid (ht2.ext_ hx6)
  have HB5 := Lib.hid (HB4.out.trans' (hb5.trans' hx6))
  clear ht2 hb5 hx6 HT1 HW1 HB4
  go_wp2_with fail
  refine (cpairC_spec t2 T2 97 769 _ HT2.out).mono ?_
  rintro e w7 ⟨rfl, hb7⟩
  have HB7 : Hid (Ext _ w7) := Lib.hid hb7
  have rT7 : ∀ k : Nat, w7.cell? ⟨w5.heap.size, k, none⟩ = t2.v.cells[k]? := box_at hb7
  clear hb7
  go_wp2_with fail
  refine (rpairC_spec t2 T2 97 769 _ (HT2.out.ext_ HB7.out)).mono ?_
  rintro e w8 ⟨rfl, hb8⟩
  have HB8 := Lib.hid (HB7.out.trans' hb8)
  have HRT2 : Hid (∀ w', Ext w8 w' → ∀ k : Nat, w'.cell? ⟨w5.heap.size, k, none⟩ = t2.v.cells[k]?) := Lib.hid (fun w' h => box_at (HB8.out.trans' h))
  have HRT : Hid (∀ w', Ext w8 w' → ∀ k : Nat, w'.cell? ⟨w.heap.size, k, none⟩ = t.v.cells[k]?) := Lib.hid (fun w' h => box_at (HB5.out.trans' (HB8.out.trans' h)))
  have HB : Hid (Ext w w8) := Lib.hid (HBA.out.trans' (HB5.out.trans' HB8.out))
  have HT2' : Hid (∀ w', Ext w8 w' → TblS w' t2 T2) := Lib.hid (fun w' h => HT2.out.ext_ (HB8.out.trans' h))
  have HT : Hid (∀ w', Ext w8 w' → TblS w' t T) := Lib.hid (fun w' h => HT0.out.ext_ (HB.out.trans' h))
  clear hb8 rT7 HB7 HB8 HB5 HBA HT0 HT2
  generalize (pairC T2 97 769).1 = x at *
  generalize (pairC T2 97 769).2 = q at *
  have HS : Hid (secC T 4449 = secC T 4449) := rfl
  have ex : (x == x) = true := by simp
  have eq : (q == q) = true := by simp
  go_wp2_with fail
  refine region_x [([], 0), ([1, 2, 3], 4), ([], 5), ([6, 7, 8, 9], 10), ([11, 12, 13, 14, 15, 16, 17, 18, 19, 20, 21, 22, 23, 25], 24), ([], 26)] [27, 28, 29] (by kernel_rfl) (by kernel_rfl) ?_
  have HX : Hid (Ext w8 w8.drew) := Lib.hid (Ext.refl _).drew_
  refine segW_cons (by repeat (first | exact OpsAre.nil | exact OpAt.zero | apply OpAt.succ | apply OpsAre.cons)) (by repeat (first | exact OpAt.zero | apply OpAt.succ)) ?_
  refine wpQuiet_nil ?_
  go_wp2_with fail
  refine (c8awake_spec _ (HG.out.ext (HB.out.trans' HX.out))).mono ?_
  rintro e w9 ⟨rfl, hb9⟩
  go_wp2_with fail
  refine segK_mk hb9 ?_
  have HX := Lib.hid (HX.out.trans' hb9)
  refine segW_cons (by repeat (first | exact OpsAre.nil | exact OpAt.zero | apply OpAt.succ | apply OpsAre.cons)) (by repeat (first | exact OpAt.zero | apply OpAt.succ)) ?_
  have rT0 : ∀ yy : ExtW w9, ∀ k : Nat, yy.w.cell? ⟨w5.heap.size, k, none⟩ = t2.v.cells[k]? := fun yy => HRT2.out _ (HX.out.trans' yy.h)
  repeat (go_big_quiet_step (fail))
  refine wpQuiet_nil ?_
  clear rT0
  go_wp2_with fail
  refine Calls.mono (dense_spec m A2 n2 c2 _ (HM.out.ext (HB.out.trans' HX.out))) ?_
  rintro e w10 ⟨A10, n10, c10, rfl, hi10, hb10⟩
  go_wp2_with fail
  refine segK_mk hb10 ?_
  have HX := Lib.hid (HX.out.trans' hb10)
  have HI10 := Lib.hid hi10
  clear hi10
  refine segW_cons (by repeat (first | exact OpsAre.nil | exact OpAt.zero | apply OpAt.succ | apply OpsAre.cons)) (by repeat (first | exact OpAt.zero | apply OpAt.succ)) ?_
  refine wpQuiet_nil ?_
  go_wp2_with fail
  refine Calls.mono (c8agrees_spec T2 t2 (denseL m) A10 n10 c10 _ (HT2'.out _ HX.out) HI10.out) ?_
  rintro e w11 ⟨rfl, hb11⟩
  go_wp2_with fail
  refine segK_mk hb11 ?_
  have HX := Lib.hid (HX.out.trans' hb11)
  refine segW_cons (by repeat (first | exact OpsAre.nil | exact OpAt.zero | apply OpAt.succ | apply OpsAre.cons)) (by repeat (first | exact OpAt.zero | apply OpAt.succ)) ?_
  have rT0 : ∀ yy : ExtW w11, ∀ k : Nat, yy.w.cell? ⟨w.heap.size, k, none⟩ = t.v.cells[k]? := fun yy => HRT.out _ (HX.out.trans' yy.h)
  repeat (go_big_quiet_step (fail))
  refine wpQuiet_nil ?_
  clear rT0
  go_wp2_with fail
  refine Calls.mono (c8agrees_spec T t m A2 n2 c2 _ (HT.out _ HX.out) (HM.out.ext (HB.out.trans' HX.out))) ?_
  rintro e w12 ⟨rfl, hb12⟩
  go_wp2_with fail
  refine segK_mk hb12 ?_
  have HX := Lib.hid (HX.out.trans' hb12)
  refine segW_cons (by repeat (first | exact OpsAre.nil | exact OpAt.zero | apply OpAt.succ | apply OpsAre.cons)) (by repeat (first | exact OpAt.zero | apply OpAt.succ)) ?_
  have rT0 : ∀ yy : ExtW w12, ∀ k : Nat, yy.w.cell? ⟨w.heap.size, k, none⟩ = t.v.cells[k]? := fun yy => HRT.out _ (HX.out.trans' yy.h)
  repeat (go_big_quiet_step (fail))
  refine wpQuiet_nil ?_
  clear rT0
  go_wp2_with fail
  refine (csecC_spec t T 4449 _ (HT.out _ HX.out)).mono ?_
  rintro e w13 ⟨rfl, hb13⟩
  go_wp2_with fail
  refine segK_mk hb13 ?_
  have HX := Lib.hid (HX.out.trans' hb13)
  refine segW_cons (by repeat (first | exact OpsAre.nil | exact OpAt.zero | apply OpAt.succ | apply OpsAre.cons)) (by repeat (first | exact OpAt.zero | apply OpAt.succ)) ?_
  refine wpQuiet_nil ?_
  go_wp2_with fail
  refine (rsecC_spec t T 4449 _ (HT.out _ HX.out)).mono ?_
  rintro e w14 ⟨rfl, hb14⟩
  generalize secC T 4449 = s at *
  have es : (s == s) = true := by simp
  go_wp2_with fail
  refine segK_mk hb14 ?_
  have HX := Lib.hid (HX.out.trans' hb14)
  refine segW_nil (by repeat (first | exact OpsAre.nil | exact OpAt.zero | apply OpAt.succ | apply OpsAre.cons)) ?_
  repeat (go_big_quiet_step (fail))
  refine wpQuiet_nil ?_
  go_wp2_with fail
  go_ret
  exact ⟨rfl, HB.out.trans' HX.out⟩
end Go.Proofs.YtcjkikbnjadmfaaGreatDoor
