/- The law ScriptSingle. -/
import Derived.Test.YtmgckljgkdahfaaDoorYs
import Derived.Test.YtmgckljgkdahfaaDoorYw
import Derived.Test.YtmgckljgkdahfaaDoorYp
import Derived.Test.YtmgckljgkdahfaaDoorKt2
namespace Go.Proofs.YtmgckljgkdahfaaDoor
open Go.RowKit

theorem scrsL_scal : ∀ c ∈ scrsL, scalarB c = true := by decide
theorem scripts_scal (m : List Int) : ∀ c ∈ scriptsL m, scalarB c = true := fun c hc => scrsL_scal c (scrsGo_mem _ _ c hc)
theorem scripts_ord {T : Tbl} (hw : wfB T = true) (m : List Int) : ordErr T (scriptsL m) = 0 := ord_ok hw (by have := scriptsL_len m; omega) (scripts_scal m)

theorem shr_uv (s : BitVec 64) (n : Nat) : uv s / 2 ^ n = uv (s >>> n) := by
  unfold uv
  rw [BitVec.toNat_ushiftRight, Nat.shiftRight_eq_div_pow]
  norm_cast
theorem bit_test (s : BitVec 64) (n : Nat) (hn : n < 64) : (bits .and .u64 (uv s / 2 ^ n) 1 == 1) = hasS s (bitS (n : Int)) := by
  rw [shr_uv, show (1 : Int) = uv 1#64 from rfl, bits_and_uv, uv_beq, hasS_bit s n hn]
  cases hs : s[n]
  · rw [beq_eq_false_iff_ne]
    intro e
    have := congrArg (fun y : BitVec 64 => y[0]) e
    simp [BitVec.getElem_and, BitVec.getElem_ushiftRight] at this
    rw [← BitVec.getLsbD_eq_getElem] at hs
    rw [hs] at this
    cases this
  · rw [beq_iff_eq]
    ext i hi
    rw [BitVec.getElem_and, BitVec.getElem_one]
    by_cases h0 : i = 0
    · subst h0
      simp [BitVec.getElem_ushiftRight]
      rw [BitVec.getLsbD_eq_getElem hn]
      exact hs
    · simp [h0]

set_option maxHeartbeats 3200000 in
set_option maxRecDepth 100000 in
theorem ssingle_spec (l m : List Int) (A : Option Addr) (n c : Nat) (A2 : Option Addr) (n2 c2 : Nat) (w : World) (h : IntS w ⟨A, n, c⟩ l) (h2 : IntS w ⟨A2, n2, c2⟩ m) (hg : Glob w) :
    Calls Tryd.prog 5 #[.slice A n c, .slice A2 n2 c2] w fun e w' => e = .returned (.bool true) ∧ Ext w w' := by
  have HG := Lib.hid hg
  have HM := Lib.hid h2
  have HL := Lib.hid h
  clear hg h h2
  go_enter Tryd.func5, Tryd.ntmps5
  go_wp2_with fail
  refine Calls.mono (tables_spec l A n c w HL.out HG.out) ?_
  rintro e w1 ⟨t, rfl, ht, hb1⟩
  have hx1 : Ext w1 (w1.alloc (.cells #[.slice t.s0.a t.s0.n t.s0.c, .slice t.s1.a t.s1.n t.s1.c, .slice t.s2.a t.s2.n t.s2.c, .slice t.s3.a t.s3.n t.s3.c, .slice t.s4.a t.s4.n t.s4.c, .slice t.s5.a t.s5.n t.s5.c, .slice t.s6.a t.s6.n t.s6.c, .slice t.s7.a t.s7.n t.s7.c, .slice t.s8.a t.s8.n t.s8.c, .slice t.s9.a t.s9.n t.s9.c, .slice t.s10.a t.s10.n t.s10.c, .slice t.s11.a t.s11.n t.s11.c] 26)) := (Ext.refl _).alloc_ _
  obtain ⟨w2, hw2⟩ : ∃ w2, w2 = (w1.alloc (.cells #[.slice t.s0.a t.s0.n t.s0.c, .slice t.s1.a t.s1.n t.s1.c, .slice t.s2.a t.s2.n t.s2.c, .slice t.s3.a t.s3.n t.s3.c, .slice t.s4.a t.s4.n t.s4.c, .slice t.s5.a t.s5.n t.s5.c, .slice t.s6.a t.s6.n t.s6.c, .slice t.s7.a t.s7.n t.s7.c, .slice t.s8.a t.s8.n t.s8.c, .slice t.s9.a t.s9.n t.s9.c, .slice t.s10.a t.s10.n t.s10.c, .slice t.s11.a t.s11.n t.s11.c] 26)) := ⟨_, rfl⟩
  have HRT : Hid (∀ w', Ext w2 w' → ∀ k : Nat, w'.cell? ⟨w1.heap.size, k, none⟩ = t.v.cells[k]?) := Lib.hid (by rw [hw2]; exact fun w' hw' => box_at hw')
  have HT : Hid (∀ w', Ext w2 w' → TblS w' t (madeT l)) := Lib.hid (by rw [hw2]; exact fun w' hw' => (ht.ext_ hx1).ext_ hw')
  have HB : Hid (Ext w w2) := Lib.hid (by rw [hw2]; exact hb1.trans' hx1)
  have HW := Lib.hid (made_wf l)
  generalize madeT l = T at *
  clear ht hb1 hx1
  go_wp2_with fail
  rw [← hw2]
  clear hw2
  refine (lscripts_spec m A2 n2 c2 _ (HM.out.ext HB.out)).mono ?_
  rintro e w3 ⟨A4, n4, c4, rfl, hi4, hb4⟩
  have HO := Lib.hid (scripts_ord HW.out m)
  generalize scriptsL m = L at *
  have HX3 := Lib.hid hb4
  have HI := Lib.hid hi4
  clear hi4 hb4
  have rT3 := HRT.out w3 HX3.out
  go_wp2_with fail
  refine (sresolve_spec t T L A4 n4 c4 _ (HT.out _ HX3.out) HI.out).mono ?_
  rintro e w4 ⟨rfl, hb4⟩
  have hrs : resolveT T L = resT T L := by rw [resolveT, if_pos HO.out]
  rw [HO.out, hrs]
  obtain ⟨s, hs⟩ : ∃ s, resT T L = s := ⟨_, rfl⟩
  have HC : Hid (∀ k : Nat, k < 64 → coverT T L (bitS (k : Int)) = hasS s (bitS (k : Int))) := Lib.hid (fun k hk => by
    rw [coverT, HO.out, ← hs, has_resT T L k hk]; rfl)
  have HSG : Hid (singleT T L = (s != 0#64)) := Lib.hid (by rw [singleT, HO.out, ← hs]; rfl)
  rw [hs]
  have HX4 := Lib.hid (HX3.out.trans' hb4)
  have HI4 := Lib.hid (HI.out.ext hb4)
  clear hs hrs hb4 rT3 HI
  go_wp2_with fail
  go_loopw [9] (fun s9 wr => ∃ (k : Nat), k ≤ 64 ∧ s9 = .int .i64 k ∧ Ext w4 wr) (fun s9 _ => 64 - (intOf s9).toNat)
  case atStart => exact ⟨0, by omega, rfl, Ext.refl _⟩
  case round =>
    obtain ⟨k, hk, rfl, hbr⟩ := hrel
    obtain ⟨w5, rfl⟩ : ∃ w5 : World, w5 = wr := ⟨_, rfl⟩
    have HB5 := Lib.hid hbr
    have HX5 := Lib.hid (HX4.out.trans' hbr)
    have rT : ∀ k : Nat, w5.cell? ⟨w1.heap.size, k, none⟩ = t.v.cells[k]? := HRT.out w5 HX5.out
    clear hbr
    by_cases hlt : k < 64
    · have hcv := HC.out k hlt
      have hsh : IntKind.u64.wrap (2 ^ k) = uv (bitS (k : Int)) := by
        have := shl_bit (k := (k : Int)) (by omega) (by omega)
        rwa [Int.toNat_natCast] at this
      have hbt := bit_test s k hlt
      obtain ⟨u, hu⟩ : ∃ u, hasS s (bitS (k : Int)) = u := ⟨_, rfl⟩
      rw [hu] at hcv hbt
      have e0 : (u != u) = false := by rw [bne_self_eq_false]
      have HCV := Lib.hid hcv
      have d1 : (k : Int) ≤ 64 := by omega
      have d2 : k ≤ 64 := by omega
      clear hcv hu
      go_wp2_with fail
      refine (sCovered_spec t T L (bitS (k : Int)) A4 n4 c4 _ (HT.out _ HX5.out) (HI4.out.ext HB5.out)).mono ?_
      rintro e w6 ⟨rfl, hb6⟩
      rw [HCV.out]
      have HB6 := Lib.hid (HB5.out.trans' hb6)
      clear hb6
      go_wp2_with fail
      go_roundw
      case rel => exact ⟨k + 1, by omega, by go_num, HB6.out⟩
      case measure => simp [intOf]; omega
    · have hk64 : k = 64 := by omega
      subst hk64
      go_wp2_with fail
      refine (s19awake_spec _ (HG.out.ext (HB.out.trans' HX5.out))).mono ?_
      rintro e w6 ⟨rfl, hb6⟩
      have HX6 := Lib.hid (HX5.out.trans' hb6)
      have HB6 := Lib.hid (HB5.out.trans' hb6)
      have rT6 : ∀ k : Nat, w6.cell? ⟨w1.heap.size, k, none⟩ = t.v.cells[k]? := HRT.out w6 HX6.out
      have q1 : (uv s != 0) = (s != 0#64) := by rw [← uv_zero, bne, uv_beq]; rfl
      obtain ⟨u, hu⟩ : ∃ u, (s != 0#64) = u := ⟨_, rfl⟩
      rw [hu] at q1
      have HU := Lib.hid (HSG.out.trans hu)
      have e0 : (u == u) = true := by rw [beq_self_eq_true]
      clear hb6 rT hu
      go_wp2_with fail
      refine (ssingle_spec_ t T L A4 n4 c4 _ (HT.out _ HX6.out) (HI4.out.ext HB6.out)).mono ?_
      rintro e w7 ⟨rfl, hb7⟩
      rw [HU.out]
      have hx := HB.out.trans' (HX6.out.trans' hb7)
      go_wp2_with fail
      go_ret
      exact ⟨rfl, hx⟩
end Go.Proofs.YtmgckljgkdahfaaDoor
