/- The law ScriptErrors. (By program: er_gen.py.) -/
import Derived.Test.YtmgckljgkdahfaaGreatDoorGm
import Derived.Test.YtmgckljgkdahfaaGreatDoorYg
import Derived.Test.YtmgckljgkdahfaaGreatDoorKt2
import Derived.Test.YtmgckljgkdahfaaGreatDoorGa
import Derived.Test.YtmgckljgkdahfaaGreatDoorOy
namespace Go.Proofs.YtmgckljgkdahfaaGreatDoor
open Go.RowKit

set_option maxHeartbeats 6400000 in
set_option maxRecDepth 100000 in
theorem serrors_spec (l m : List Int) (how at_ v : Int) (t : TV) (T : Tbl) (u : BitVec 64) (A : Option Addr) (n c : Nat) (A2 : Option Addr) (n2 c2 : Nat) (w : World) (h : IntS w ⟨A, n, c⟩ l) (h2 : IntS w ⟨A2, n2, c2⟩ m) (ht : TblS w t T) (hg : Glob w) :
    Calls Tryz.prog 9 #[.slice A n c, .slice A2 n2 c2, .int .i64 how, .int .i64 at_, .int .i64 v, t.v, .int .u64 (uv u)] w fun e w' => e = .returned (.bool true) ∧ Ext w w' := by
  have HG := Lib.hid hg
  have HM := Lib.hid h2
  have HL := Lib.hid h
  obtain ⟨w2, hw2⟩ : ∃ w2, w2 = (w.alloc (.cells #[.slice t.s0.a t.s0.n t.s0.c, .slice t.s1.a t.s1.n t.s1.c, .slice t.s2.a t.s2.n t.s2.c, .slice t.s3.a t.s3.n t.s3.c, .slice t.s4.a t.s4.n t.s4.c, .slice t.s5.a t.s5.n t.s5.c, .slice t.s6.a t.s6.n t.s6.c, .slice t.s7.a t.s7.n t.s7.c, .slice t.s8.a t.s8.n t.s8.c, .slice t.s9.a t.s9.n t.s9.c, .slice t.s10.a t.s10.n t.s10.c, .slice t.s11.a t.s11.n t.s11.c] 26)) := ⟨_, rfl⟩
  have hba : Ext w w2 := by rw [hw2]; exact (Ext.refl _).alloc_ _
  have HRT : Hid (∀ w', Ext w2 w' → ∀ k : Nat, w'.cell? ⟨w.heap.size, k, none⟩ = t.v.cells[k]?) := Lib.hid (by rw [hw2]; exact fun w' hw' => box_at hw')
  have HT : Hid (∀ w', Ext w2 w' → TblS w' t T) := Lib.hid (fun w' hw' => ht.ext_ (hba.trans' hw'))
  have HB := Lib.hid hba
  clear hg h h2 ht hba
  go_enter Tryz.func9, Tryz.ntmps9
  go_upto_region 1 with fail
  rw [← hw2]
  clear hw2
  refine region_x [([], 0), ([1, 2, 4, 5, 6, 8, 10], 3), ([], 7), ([], 9), ([], 11), ([12, 13, 14, 15, 17], 16), ([], 18)] [19, 20] (by kernel_rfl) (by kernel_rfl) ?_
  have HX := Lib.hid ((Ext.refl w2).drew_)
  refine segW_cons (by repeat (first | exact OpsAre.nil | exact OpAt.zero | apply OpAt.succ | apply OpsAre.cons)) (by repeat (first | exact OpAt.zero | apply OpAt.succ)) ?_
  refine wpQuiet_nil ?_
  go_wp2_with fail
  refine Calls.mono (s19awake_spec _ (HG.out.ext (HB.out.trans' HX.out))) ?_
  rintro e w3 ⟨rfl, hb3⟩
  go_wp2_with fail
  refine segK_mk hb3 ?_
  have HX := Lib.hid (HX.out.trans' hb3)
  refine segW_cons (by repeat (first | exact OpsAre.nil | exact OpAt.zero | apply OpAt.succ | apply OpsAre.cons)) (by repeat (first | exact OpAt.zero | apply OpAt.succ)) ?_
  repeat (go_big_quiet_step (fail))
  refine wpQuiet_nil ?_
  go_wp2_with fail
  refine Calls.mono (tables_spec l A n c _ (HL.out.ext (HB.out.trans' HX.out)) (HG.out.ext (HB.out.trans' HX.out))) ?_
  rintro e w4 ⟨t1, rfl, ht1, hb4⟩
  have HW1 := Lib.hid (made_wf l)
  have HT1 := Lib.hid ht1
  clear ht1
  go_wp2_with fail
  refine segK_mk hb4 ?_
  have HX := Lib.hid (HX.out.trans' hb4)
  refine segW_cons (by repeat (first | exact OpsAre.nil | exact OpAt.zero | apply OpAt.succ | apply OpsAre.cons)) (by repeat (first | exact OpAt.zero | apply OpAt.succ)) ?_
  refine wpQuiet_nil ?_
  go_wp2_with fail
  refine Calls.mono (other_spec t1 (madeT l) how at_ v _ HT1.out (small_wf HW1.out)) ?_
  rintro e w5 ⟨t2, T2, rfl, ht2, hb5⟩
  have HT2 := Lib.hid ht2
  clear ht2
  go_wp2_with fail
  refine segK_mk hb5 ?_
  have HX := Lib.hid (HX.out.trans' hb5)
  refine segW_cons (by repeat (first | exact OpsAre.nil | exact OpAt.zero | apply OpAt.succ | apply OpsAre.cons)) (by repeat (first | exact OpAt.zero | apply OpAt.succ)) ?_
  refine wpQuiet_nil ?_
  go_wp2_with fail
  refine Calls.mono (lscripts_spec m A2 n2 c2 _ (HM.out.ext (HB.out.trans' HX.out))) ?_
  rintro e w6 ⟨A6, n6, c6, rfl, hi6, hb6⟩
  have HI6 := Lib.hid hi6
  have HT2 := Lib.hid (HT2.out.ext_ hb6)
  clear hi6
  go_wp2_with fail
  refine segK_mk hb6 ?_
  have HX := Lib.hid (HX.out.trans' hb6)
  refine segW_cons (by repeat (first | exact OpsAre.nil | exact OpAt.zero | apply OpAt.succ | apply OpsAre.cons)) (by repeat (first | exact OpAt.zero | apply OpAt.succ)) ?_
  refine wpQuiet_nil ?_
  go_wp2_with fail
  refine Calls.mono (sagrees_spec t2 T2 (scriptsL m) A6 n6 c6 131072 u _ HT2.out HI6.out) ?_
  rintro e w7 ⟨rfl, hb7⟩
  go_wp2_with fail
  refine segK_mk hb7 ?_
  have HX := Lib.hid (HX.out.trans' hb7)
  refine segW_cons (by repeat (first | exact OpsAre.nil | exact OpAt.zero | apply OpAt.succ | apply OpsAre.cons)) (by repeat (first | exact OpAt.zero | apply OpAt.succ)) ?_
  have rT : ∀ yy : ExtW w7, ∀ k : Nat, yy.w.cell? ⟨w.heap.size, k, none⟩ = t.v.cells[k]? := fun yy => HRT.out _ (HX.out.trans' yy.h)
  repeat (go_big_quiet_step (fail))
  refine wpQuiet_nil ?_
  clear rT
  go_wp2_with fail
  refine Calls.mono (lscripts_spec m A2 n2 c2 _ (HM.out.ext (HB.out.trans' HX.out))) ?_
  rintro e w8 ⟨A8, n8, c8, rfl, hi8, hb8⟩
  have HI8 := Lib.hid hi8
  clear hi8
  go_wp2_with fail
  refine segK_mk hb8 ?_
  have HX := Lib.hid (HX.out.trans' hb8)
  refine segW_cons (by repeat (first | exact OpsAre.nil | exact OpAt.zero | apply OpAt.succ | apply OpsAre.cons)) (by repeat (first | exact OpAt.zero | apply OpAt.succ)) ?_
  refine wpQuiet_nil ?_
  go_wp2_with fail
  refine Calls.mono (sagrees_spec t T (scriptsL m) A8 n8 c8 97 u _ (HT.out _ HX.out) HI8.out) ?_
  rintro e w9 ⟨rfl, hb9⟩
  go_wp2_with fail
  refine segK_mk hb9 ?_
  have HX := Lib.hid (HX.out.trans' hb9)
  refine segW_nil (by repeat (first | exact OpsAre.nil | exact OpAt.zero | apply OpAt.succ | apply OpsAre.cons)) ?_
  repeat (go_big_quiet_step (fail))
  refine wpQuiet_nil ?_
  go_wp2_with fail
  go_ret
  exact ⟨rfl, HB.out.trans' HX.out⟩
end Go.Proofs.YtmgckljgkdahfaaGreatDoor
