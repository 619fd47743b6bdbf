/- The law ScriptMade. (By program: ym_gen.py.) -/
import Derived.Test.YtmgckljgkdahfaaGreatDoorYs
import Derived.Test.YtmgckljgkdahfaaGreatDoorYw
import Derived.Test.YtmgckljgkdahfaaGreatDoorYg
import Derived.Test.YtmgckljgkdahfaaGreatDoorKt2
import Derived.Test.YtmgckljgkdahfaaGreatDoorGa
namespace Go.Proofs.YtmgckljgkdahfaaGreatDoor
open Go.RowKit

set_option maxHeartbeats 3200000 in
set_option maxRecDepth 100000 in
theorem smade_spec (l m o : List Int) (x : Int) (u : BitVec 64) (A : Option Addr) (n c : Nat) (A2 : Option Addr) (n2 c2 : Nat) (A3 : Option Addr) (n3 c3 : Nat) (w : World) (h : IntS w ⟨A, n, c⟩ l) (h2 : IntS w ⟨A2, n2, c2⟩ m) (h3 : IntS w ⟨A3, n3, c3⟩ o) (hg : Glob w) :
    Calls Tryz.prog 8 #[.slice A n c, .slice A2 n2 c2, .slice A3 n3 c3, .int .i64 x, .int .u64 (uv u)] w fun e w' => e = .returned (.bool true) ∧ Ext w w' := by
  have HG := Lib.hid hg
  have HM := Lib.hid h2
  have HL := Lib.hid h
  have HO := Lib.hid h3
  clear hg h h2 h3
  go_enter Tryz.func8, Tryz.ntmps8
  go_wp2_with fail
  refine Calls.mono (tables_spec l A n c w HL.out HG.out) ?_
  rintro e w1 ⟨t, rfl, ht, hb1⟩
  have hx1 : Ext w1 (w1.alloc (.cells #[.slice t.s0.a t.s0.n t.s0.c, .slice t.s1.a t.s1.n t.s1.c, .slice t.s2.a t.s2.n t.s2.c, .slice t.s3.a t.s3.n t.s3.c, .slice t.s4.a t.s4.n t.s4.c, .slice t.s5.a t.s5.n t.s5.c, .slice t.s6.a t.s6.n t.s6.c, .slice t.s7.a t.s7.n t.s7.c, .slice t.s8.a t.s8.n t.s8.c, .slice t.s9.a t.s9.n t.s9.c, .slice t.s10.a t.s10.n t.s10.c, .slice t.s11.a t.s11.n t.s11.c] 26)) := (Ext.refl _).alloc_ _
  obtain ⟨w2, hw2⟩ : ∃ w2, w2 = (w1.alloc (.cells #[.slice t.s0.a t.s0.n t.s0.c, .slice t.s1.a t.s1.n t.s1.c, .slice t.s2.a t.s2.n t.s2.c, .slice t.s3.a t.s3.n t.s3.c, .slice t.s4.a t.s4.n t.s4.c, .slice t.s5.a t.s5.n t.s5.c, .slice t.s6.a t.s6.n t.s6.c, .slice t.s7.a t.s7.n t.s7.c, .slice t.s8.a t.s8.n t.s8.c, .slice t.s9.a t.s9.n t.s9.c, .slice t.s10.a t.s10.n t.s10.c, .slice t.s11.a t.s11.n t.s11.c] 26)) := ⟨_, rfl⟩
  have HRT : Hid (∀ w', Ext w2 w' → ∀ k : Nat, w'.cell? ⟨w1.heap.size, k, none⟩ = t.v.cells[k]?) := Lib.hid (by rw [hw2]; exact fun w' hw' => box_at hw')
  have HT : Hid (∀ w', Ext w2 w' → TblS w' t (madeT l)) := Lib.hid (by rw [hw2]; exact fun w' hw' => (ht.ext_ hx1).ext_ hw')
  have HB : Hid (Ext w w2) := Lib.hid (by rw [hw2]; exact hb1.trans' hx1)
  have HW := Lib.hid (made_wf l)
  generalize madeT l = T at *
  clear ht hb1 hx1
  go_wp2_with fail
  rw [← hw2]
  clear hw2
  refine (lscripts_spec m A2 n2 c2 _ (HM.out.ext HB.out)).mono ?_
  rintro e w3 ⟨A4, n4, c4, rfl, hi4, hb4⟩
  have HLN := Lib.hid (scriptsL_len m)
  generalize scriptsL m = L at *
  have HX3 := Lib.hid hb4
  have HI := Lib.hid hi4
  obtain ⟨hn4, _, _⟩ := hi4.len
  subst hn4
  have hl6 := HLN.out
  clear hi4 hb4
  have hk1 := pickV_bd x (n := 64) (by decide)
  obtain ⟨i1, hi1⟩ : ∃ i, pickV x 64 = i := ⟨_, rfl⟩
  rw [hi1] at hk1
  have hk2 := pickV_bd (wrap64 (x.tdiv 64)) (n := 64) (by decide)
  obtain ⟨i2, hi2⟩ : ∃ i, pickV (wrap64 (x.tdiv 64)) 64 = i := ⟨_, rfl⟩
  rw [hi2] at hk2
  have HP1 := Lib.hid hi1
  have HP2 := Lib.hid hi2
  obtain ⟨a0, a1⟩ := hk1
  obtain ⟨b0, b1⟩ := hk2
  have a64 : i1 ≤ 64 := by omega
  have b64 : i2 ≤ 64 := by omega
  have hsh1 : IntKind.u64.wrap (2 ^ i1.toNat) = uv (bitS i1) := shl_bit a0 (by omega)
  have hsh2 : IntKind.u64.wrap (2 ^ i2.toNat) = uv (bitS i2) := shl_bit b0 (by omega)
  have q1 : bits .or .u64 (uv (bitS i1)) (uv (bitS i2)) = uv (bitS i1 ||| bitS i2) := bits_or_uv _ _
  clear hi1 hi2
  go_wp2_with fail
  go_loopw [21] (fun s21 wr => ∃ (k : Nat), k ≤ L.length ∧ s21 = .int .i64 k ∧ Ext w3 wr) (fun s21 _ => L.length - (intOf s21).toNat)
  case atStart => exact ⟨0, Nat.zero_le _, rfl, Ext.refl _⟩
  case round =>
    obtain ⟨k, hk, rfl, hbr⟩ := hrel
    obtain ⟨wo, rfl⟩ : ∃ wo : World, wo = wr := ⟨_, rfl⟩
    have HBR := Lib.hid hbr
    have HX5 := Lib.hid (HX3.out.trans' hbr)
    clear hbr
    by_cases hlt : k < L.length
    · obtain ⟨b, of, ha, h1⟩ := (HI.out.ext HBR.out).at_ hlt
      subst ha
      generalize L[k] = y at *
      go_upto_region 6 with fail
      clear h1
      refine region_x [([0, 1, 2, 3, 7, 8], 4), ([5, 6], 9), ([10, 11, 12], 13)] [14] (by kernel_rfl) (by kernel_rfl) ?_
      have HX6 : Hid (Ext w2 wo.drew) := Lib.hid (HX5.out.drew_)
      have HI6 : Hid (IntS wo.drew ⟨some ⟨b, of, none⟩, L.length, c4⟩ L) := Lib.hid (HI.out.ext (HBR.out.drew_))
      refine segW_cons (by repeat (first | exact OpsAre.nil | exact OpAt.zero | apply OpAt.succ | apply OpsAre.cons)) (by repeat (first | exact OpAt.zero | apply OpAt.succ)) ?_
      have rT : ∀ yy : ExtW wo.drew, ∀ k : Nat, yy.w.cell? ⟨w1.heap.size, k, none⟩ = t.v.cells[k]? := fun yy => HRT.out _ (HX6.out.trans' yy.h)
      repeat (go_big_quiet_step (fail))
      refine wpQuiet_nil ?_
      clear rT
      go_wp2_with fail
      refine (kpick_spec x 64 (by decide) (by decide) _).mono ?_
      rintro e w' ⟨rfl, rfl⟩
      rw [HP1.out]
      go_wp2_with fail
      refine segK_mk (Ext.refl _) ?_
      refine segW_cons (by repeat (first | exact OpsAre.nil | exact OpAt.zero | apply OpAt.succ | apply OpsAre.cons)) (by repeat (first | exact OpAt.zero | apply OpAt.succ)) ?_
      repeat (go_big_quiet_step (fail))
      refine wpQuiet_nil ?_
      go_wp2_with fail
      refine (kpick_spec _ 64 (by decide) (by decide) _).mono ?_
      rintro e w' ⟨rfl, rfl⟩
      rw [HP2.out]
      go_wp2_with fail
      refine segK_mk (Ext.refl _) ?_
      refine segW_cons (by repeat (first | exact OpsAre.nil | exact OpAt.zero | apply OpAt.succ | apply OpsAre.cons)) (by repeat (first | exact OpAt.zero | apply OpAt.succ)) ?_
      repeat (go_big_quiet_step (fail))
      refine wpQuiet_nil ?_
      go_wp2_with fail
      refine (sagrees_spec t T L _ _ _ y (bitS i1 ||| bitS i2) _ (HT.out _ HX6.out) HI6.out).mono ?_
      rintro e w7 ⟨rfl, hb7⟩
      have HB7 := Lib.hid (HBR.out.trans' ((Ext.refl _).drew_.trans' hb7))
      go_wp2_with fail
      refine segK_mk hb7 ?_
      refine segW_nil (by repeat (first | exact OpsAre.nil | exact OpAt.zero | apply OpAt.succ | apply OpsAre.cons)) ?_
      repeat (go_big_quiet_step (fail))
      refine wpQuiet_nil ?_
      clear hb7
      go_wp2_with fail
      go_roundw
      case rel => exact ⟨k + 1, by omega, by go_num, HB7.out⟩
      case measure => simp [intOf]; omega
    · have d1 : decide (k < L.length) = false := decide_eq_false hlt
      go_wp2_with fail
      refine (s19awake_spec _ (HG.out.ext (HB.out.trans' HX5.out))).mono ?_
      rintro e w5 ⟨rfl, hb5⟩
      have HX7 := Lib.hid (HX5.out.trans' hb5)
      have HB7 := Lib.hid (HBR.out.trans' hb5)
      have rT5 := HRT.out w5 HX7.out
      clear hb5
      go_wp2_with fail
      refine (sagrees_spec t T L A4 _ c4 x u _ (HT.out _ HX7.out) (HI.out.ext HB7.out)).mono ?_
      rintro e w6 ⟨rfl, hb6⟩
      have HX8 := Lib.hid (HX7.out.trans' hb6)
      have rT6 := HRT.out w6 HX8.out
      clear hb6 rT5
      go_wp2_with fail
      refine (sagrees_spec t T o A3 n3 c3 x u _ (HT.out _ HX8.out) (HO.out.ext (HB.out.trans' HX8.out))).mono ?_
      rintro e w8 ⟨rfl, hb8⟩
      have hx := HB.out.trans' (HX8.out.trans' hb8)
      go_wp2_with fail
      go_ret
      exact ⟨rfl, hx⟩
end Go.Proofs.YtmgckljgkdahfaaGreatDoor
