/- Walk of the reference: Quick. Walk: namedesklaw8.agrees: it returns true for all tables and sequences. -/
import Derived.Test.YtcjkikbnjadmfaaGreatDoorGu
import Derived.Test.YtcjkikbnjadmfaaGreatDoorGx
import Derived.Test.YtcjkikbnjadmfaaGreatDoorGa
import Derived.Test.YtcjkikbnjadmfaaGreatDoorUe
import Derived.Test.YtcjkikbnjadmfaaGreatDoorGh
namespace Go.Proofs.YtcjkikbnjadmfaaGreatDoor
open Go.RowKit

def RqA (T : Tbl) (w1 : World) (l : List Int) (gh : Nat) (s15 : Value) (wx : World) : Prop :=
  ∃ k : Nat, k + gh = l.length ∧ s15 = .int .i64 k ∧ Hid (Ext w1 wx) ∧ Hid ((l.take k).any (noB T) = false)
def RqB (T : Tbl) (w1 : World) (l : List Int) (gh : Nat) (s34 : Value) (wx : World) : Prop :=
  ∃ k : Nat, k + gh = l.length ∧ s34 = .int .i64 k ∧ Hid (Ext w1 wx) ∧ Hid ((l.take k).any (mayB T) = false)
set_option maxHeartbeats 3200000 in
set_option maxRecDepth 100000 in
theorem rquick_spec (T : Tbl) (t : TV) (l : List Int) (A : Option Addr) (n c : Nat) (w : World) (ht : TblS w t T) (hi : IntS w ⟨A, n, c⟩ l) :
    Calls Tryz.prog 40 #[t.v, .slice A n c] w fun e w' => e = .returned (.int .i64 (qkT T l)) ∧ Ext w w' := by
  have hba : Ext w (w.alloc (.cells #[.slice t.s0.a t.s0.n t.s0.c, .slice t.s1.a t.s1.n t.s1.c, .slice t.s2.a t.s2.n t.s2.c, .slice t.s3.a t.s3.n t.s3.c, .slice t.s4.a t.s4.n t.s4.c, .slice t.s5.a t.s5.n t.s5.c, .slice t.s6.a t.s6.n t.s6.c, .slice t.s7.a t.s7.n t.s7.c, .slice t.s8.a t.s8.n t.s8.c, .slice t.s9.a t.s9.n t.s9.c, .slice t.s10.a t.s10.n t.s10.c, .slice t.s11.a t.s11.n t.s11.c] 26)) := (Ext.refl _).alloc_ _
  have HT := Lib.hid (ht.ext_ hba)
  have HI := Lib.hid (hi.ext hba)
  have hn := hi.len.1
  subst hn
  clear ht hi
  go_enter Tryz.func40, Tryz.ntmps40
  go_wp2_with fail
  refine (rsorted_spec T t l A _ c _ HT.out HI.out).mono ?_
  rintro e w1 ⟨rfl, hb1⟩
  have HB1 := Lib.hid hb1
  clear hb1
  cases hz : ((ordErr T l == 0) && sameB (srtT T l) l)
  · have HZ : Hid (qkT T l = 0) := Lib.hid (by
      unfold qkT qckT
      by_cases h0 : ordErr T l = 0
      · rw [h0] at hz
        have h2 : srtT T l ≠ l := fun h => by rw [(sameB_eq _ _).2 h] at hz; cases hz
        rw [if_pos h0, if_pos h2]
      · rw [if_neg h0])
    have hb := hba.trans' HB1.out
    clear hz
    go_wp2_with fail
    go_ret
    exact ⟨ret_int HZ.out.symm, hb⟩
  · have h0 : ordErr T l = 0 ∧ srtT T l = l := by
      simp only [Bool.and_eq_true, beq_iff_eq] at hz
      exact ⟨hz.1, (sameB_eq _ _).1 hz.2⟩
    obtain ⟨hw, hl⟩ := ord_zero h0.1
    have HW := Lib.hid hw
    have HWD := Lib.hid (wf_dec hw)
    have HF := Lib.hid (wfc_of hw).fin
    have HSC := Lib.hid (ord_scal h0.1)
    have HV : Hid (qkT T l = if l.any (noB T) = true then 0 else if l.any (mayB T) = true then 2 else 1) := Lib.hid (by
      rw [qkT, if_pos h0.1, qckT, if_neg (by rw [h0.2]; simp)])
    clear h0 hw hz
    go_wp2_with fail
    go_loopg [15] l.length (fun gh s15 wx => RqA T w1 l gh s15 wx)
    case atStart => exact ⟨0, by omega, rfl, Lib.hid (Ext.refl _), Lib.hid rfl⟩
    case round =>
      obtain ⟨k, hkg, rfl, HB, HN⟩ := hrel
      have HBW := Lib.hid (HB1.out.trans' HB.out)
      have HIR := Lib.hid (HI.out.ext HBW.out)
      by_cases hlt : k < l.length
      · obtain ⟨gk', rfl⟩ : ∃ g', gk = g' + 1 := ⟨gk - 1, by omega⟩
        obtain ⟨b, o, hA, hcx⟩ := HIR.out.at_ hlt
        subst hA
        have HN1 := Lib.hid (any_take (f := noB T) hlt)
        have HNM := Lib.hid (any_mem (f := noB T) hlt)
        generalize l[k] = x at *
        have hk0 : (0 : Int) ≤ (k : Int) := Int.natCast_nonneg _
        have hk1 : (k : Int) < (l.length : Int) := by omega
        have rT : ∀ k : Nat, wr.cell? ⟨w.heap.size, k, none⟩ = t.v.cells[k]? := box_at HBW.out
        obtain ⟨za, zn, zc, hz, hf⟩ := rfind_det T.dec t.s9.a t.s9.n t.s9.c x wr (HT.out.ext_ HBW.out).dec
        have hzn := hz.len.1
        have HFD := Lib.hid (hf wr (Ext.refl _))
        clear hf hz
        by_cases he : mpFind T.dec x = []
        · have hz0 : zn = 0 := by rw [hzn, he]; rfl
          subst hz0
          have HNO : Hid (noB T x = false) := Lib.hid (by rw [noB, he]; rfl)
          clear he hzn
          go_wp2_with fail
          refine HFD.out.mono ?_
          rintro e w3 ⟨rfl, hb3⟩
          have HB3 := Lib.hid (HB.out.trans' hb3)
          clear hb3 hcx rT
          go_wp2_with fail
          go_roundg gk'
          case measure => omega
          case rel => exact ⟨k + 1, by omega, by go_num, HB3, Lib.hid (by rw [HN1.out, HN.out, HNO.out]; rfl)⟩
        · have hp : 0 < zn := by
            rw [hzn]
            exact List.length_pos_iff.2 he
          have HEM : Hid ((mpFind T.dec x).isEmpty = false) := Lib.hid (by cases hm : mpFind T.dec x with | nil => exact absurd hm he | cons y r => rfl)
          have d1 : decide ((0 : Int) < (zn : Int)) = true := decide_eq_true (by omega)
          have d2 : decide (0 < zn) = true := decide_eq_true hp
          have HCO : Hid (∀ w', Ext wr w' → Calls Tryz.prog 65 #[t.v, .int .i64 x] w' fun e w'' => e = .returned (.bool (compT T ⟨x, mpFind T.dec x⟩)) ∧ Ext w' w'') := Lib.hid (fun w' h => rcomp_spec T HWD.out.1 HF.out HWD.out.2 t x w' (HT.out.ext_ (HBW.out.trans' h)))
          clear he hzn hp
          cases hct : compT T ⟨x, mpFind T.dec x⟩
          · rw [hct] at HCO
            have HFV : Hid (qkT T l = 0) := Lib.hid (by rw [HV.out, if_pos (HNM.out (by rw [noB, HEM.out, hct]; rfl))])
            clear hct
            go_wp2_with fail
            refine HFD.out.mono ?_
            rintro e w3 ⟨rfl, hb3⟩
            have HB3 := Lib.hid hb3
            have rT3 : ∀ k : Nat, w3.cell? ⟨w.heap.size, k, none⟩ = t.v.cells[k]? := box_at (HBW.out.trans' hb3)
            clear hb3 hcx rT
            go_wp2_with fail
            refine (HCO.out _ HB3.out).mono ?_
            rintro e w4 ⟨rfl, hb4⟩
            have hb := hba.trans' (HBW.out.trans' (HB3.out.trans' hb4))
            clear hb4 rT3
            go_wp2_with fail
            go_ret
            exact ⟨ret_int HFV.out.symm, hb⟩
          · rw [hct] at HCO
            have HNO : Hid (noB T x = false) := Lib.hid (by rw [noB, hct]; simp)
            clear hct
            go_wp2_with fail
            refine HFD.out.mono ?_
            rintro e w3 ⟨rfl, hb3⟩
            have HB3 := Lib.hid hb3
            have rT3 : ∀ k : Nat, w3.cell? ⟨w.heap.size, k, none⟩ = t.v.cells[k]? := box_at (HBW.out.trans' hb3)
            clear hb3 hcx rT
            go_wp2_with fail
            refine (HCO.out _ HB3.out).mono ?_
            rintro e w4 ⟨rfl, hb4⟩
            have HB4 := Lib.hid (HB.out.trans' (HB3.out.trans' hb4))
            clear hb4 rT3
            go_wp2_with fail
            go_roundg gk'
            case measure => omega
            case rel => exact ⟨k + 1, by omega, by go_num, HB4, Lib.hid (by rw [HN1.out, HN.out, HNO.out]; rfl)⟩
      · have HNA : Hid (l.any (noB T) = false) := Lib.hid (by
          have h1 := HN.out
          rw [List.take_of_length_le (by omega)] at h1
          exact h1)
        have HVV : Hid (qkT T l = if l.any (mayB T) = true then 2 else 1) := Lib.hid (by rw [HV.out, if_neg (by rw [HNA.out]; simp)])
        clear HN HV HBW HIR
        go_wp2_with fail
        clear hlt hkg
        go_loopg [34] l.length (fun gh s34 wx => RqB T w1 l gh s34 wx)
        case atStart => exact ⟨0, by omega, rfl, HB, Lib.hid rfl⟩
        case round =>
          obtain ⟨k, hkg, rfl, HB, HN⟩ := hrel
          have HBW := Lib.hid (HB1.out.trans' HB.out)
          have HIR := Lib.hid (HI.out.ext HBW.out)
          by_cases hlt : k < l.length
          · obtain ⟨gk', rfl⟩ : ∃ g', gk = g' + 1 := ⟨gk - 1, by omega⟩
            obtain ⟨b, o, hA, hcx⟩ := HIR.out.at_ hlt
            subst hA
            have HN1 := Lib.hid (any_take (f := mayB T) hlt)
            have HNM := Lib.hid (any_mem (f := mayB T) hlt)
            have HBD := Lib.hid (scal_bd (HSC.out _ (List.getElem_mem hlt)))
            generalize l[k] = x at *
            have hk0 : (0 : Int) ≤ (k : Int) := Int.natCast_nonneg _
            have hk1 : (k : Int) < (l.length : Int) := by omega
            obtain ⟨y, ry, hxy⟩ := exp_pos T x
            have HMB : Hid (mayB T x = secT T y) := Lib.hid (by rw [mayB, hxy]; rfl)
            have HXY := Lib.hid hxy
            clear hxy
            go_wp2_with fail
            refine region_x [([0, 1, 2], 3), ([4, 5], 6)] [] (by kernel_rfl) (by kernel_rfl) ?_
            have HX : Hid (Ext w1 wr.drew) := Lib.hid HB.out.drew_
            refine segW_cons (by repeat (first | exact OpsAre.nil | exact OpAt.zero | apply OpAt.succ | apply OpsAre.cons)) (by repeat (first | exact OpAt.zero | apply OpAt.succ)) ?_
            have rT : ∀ yy : ExtW wr.drew, ∀ k : Nat, yy.w.cell? ⟨w.heap.size, k, none⟩ = t.v.cells[k]? := fun yy => box_at (HB1.out.trans' (HX.out.trans' yy.h))
            repeat (go_big_quiet_step (fail))
            refine wpQuiet_nil ?_
            clear rT hcx
            go_wp2_with fail
            refine (rexpand_spec T HW.out t x _ (HT.out.ext_ (HB1.out.trans' HX.out)) HBD.out).mono ?_
            rintro e w3 ⟨A5, n5, q5, rfl, hi5, hb5⟩
            rw [HXY.out] at hi5
            have hn5 := hi5.len.1
            obtain ⟨b5, o5, rfl, hc5⟩ := hi5.at_ (i := 0) (by simp)
            simp only [Nat.add_zero, List.getElem_cons_zero] at hc5
            have hn50 : (0 : Int) < (n5 : Int) := by rw [hn5]; simp
            have hn51 : 0 < n5 := by omega
            have HC5 := Lib.hid hc5
            have HX5 := Lib.hid (HX.out.trans' hb5)
            clear hi5 hn5 hc5
            go_wp2_with fail
            refine segK_mk hb5 ?_
            clear hb5
            refine segW_cons (by repeat (first | exact OpsAre.nil | exact OpAt.zero | apply OpAt.succ | apply OpsAre.cons)) (by repeat (first | exact OpAt.zero | apply OpAt.succ)) ?_
            have rX : ∀ yy : ExtW w3, yy.w.cell? ⟨b5, o5, none⟩ = some (.int .i64 y) := ext_cell HC5.out
            repeat (go_big_quiet_step (fail))
            refine wpQuiet_nil ?_
            clear rX
            go_wp2_with fail
            refine (rsecond_spec T HW.out t y _ (HT.out.ext_ (HB1.out.trans' HX5.out))).mono ?_
            rintro e w4 ⟨rfl, hb6⟩
            have HX6 := Lib.hid (HX5.out.trans' hb6)
            go_wp2_with fail
            refine segK_mk hb6 ?_
            clear hb6
            refine segW_nil (by repeat (first | exact OpsAre.nil | exact OpAt.zero | apply OpAt.succ | apply OpsAre.cons)) ?_
            refine wpQuiet_nil ?_
            cases hs : secT T y
            · have HMX := Lib.hid (HMB.out.trans hs)
              clear hs
              go_wp2_with fail
              go_roundg gk'
              case measure => omega
              case rel => exact ⟨k + 1, by omega, by go_num, HX6, Lib.hid (by rw [HN1.out, HN.out, HMX.out]; rfl)⟩
            · have HFV : Hid (qkT T l = 2) := Lib.hid (by rw [HVV.out, if_pos (HNM.out (HMB.out.trans hs))])
              have hb := hba.trans' (HB1.out.trans' HX6.out)
              clear hs
              go_wp2_with fail
              go_ret
              exact ⟨ret_int HFV.out.symm, hb⟩
          · have HFV : Hid (qkT T l = 1) := Lib.hid (by
              have h1 := HN.out
              rw [List.take_of_length_le (by omega)] at h1
              rw [HVV.out, if_neg (by rw [h1]; simp)])
            have hb := hba.trans' HBW.out
            clear HN
            go_wp2_with fail
            go_ret
            exact ⟨ret_int HFV.out.symm, hb⟩
end Go.Proofs.YtcjkikbnjadmfaaGreatDoor
namespace Go.Proofs.YtcjkikbnjadmfaaGreatDoor
open Go.RowKit

set_option maxHeartbeats 3200000 in
set_option maxRecDepth 100000 in
theorem c8agrees_spec (T : Tbl) (t : TV) (l : List Int) (A : Option Addr) (n c : Nat) (w : World) (ht : TblS w t T) (hi : IntS w ⟨A, n, c⟩ l) :
    Calls Tryz.prog 12 #[t.v, .slice A n c] w fun e w' => e = .returned (.bool true) ∧ Ext w w' := by
  have hba : Ext w (w.alloc (.cells #[.slice t.s0.a t.s0.n t.s0.c, .slice t.s1.a t.s1.n t.s1.c, .slice t.s2.a t.s2.n t.s2.c, .slice t.s3.a t.s3.n t.s3.c, .slice t.s4.a t.s4.n t.s4.c, .slice t.s5.a t.s5.n t.s5.c, .slice t.s6.a t.s6.n t.s6.c, .slice t.s7.a t.s7.n t.s7.c, .slice t.s8.a t.s8.n t.s8.c, .slice t.s9.a t.s9.n t.s9.c, .slice t.s10.a t.s10.n t.s10.c, .slice t.s11.a t.s11.n t.s11.c] 26)) := (Ext.refl _).alloc_ _
  have HT := Lib.hid (ht.ext_ hba)
  have HI := Lib.hid (hi.ext hba)
  clear ht hi
  go_enter Tryz.func12, Tryz.ntmps12
  go_wp2_with fail
  refine (nfc_spec T t l A n c _ HT.out HI.out).mono ?_
  rintro e w1 ⟨B1, m1, d1, rfl, hb1, hi1⟩
  have HB1 := Lib.hid hb1
  have HI1 := Lib.hid hi1
  have rT : ∀ k : Nat, w1.cell? ⟨w.heap.size, k, none⟩ = t.v.cells[k]? := box_at hb1
  clear hb1 hi1
  go_wp2_with fail
  refine (rnfc_spec T t l A n c _ (HT.out.ext_ HB1.out) (HI.out.ext HB1.out)).mono ?_
  rintro e w2 ⟨B2, m2, d2, rfl, hb2, hi2⟩
  have HB2 := Lib.hid (HB1.out.trans' hb2)
  have HX1 := Lib.hid (HI1.out.ext hb2)
  have HI2 := Lib.hid hi2
  clear hb2 hi2 rT HB1 HI1
  have HSA : Hid (∀ w', Ext w2 w' → Calls Tryz.prog 17 #[.slice B1 m1 d1, .slice B2 m2 d2] w' fun e w'' => e = .returned (.bool true) ∧ Ext w' w'') := Lib.hid (fun w' h => by
    have h' := same_spec (nfcRes T l) (nfcRes T l) B1 m1 d1 B2 m2 d2 w' (HX1.out.ext h) (HI2.out.ext h)
    rw [(sameB_eq _ _).2 rfl] at h'
    exact h')
  have HIS : Hid (∀ w', Ext w2 w' → Calls Tryz.prog 18 #[t.v, .slice A n c] w' fun e w'' => e = .returned (.bool (isNfc T l)) ∧ Ext w' w'') := Lib.hid (fun w' h => isnfc_spec T t l A n c w' (HT.out.ext_ (HB2.out.trans' h)) (HI.out.ext (HB2.out.trans' h)))
  have HRI : Hid (∀ w', Ext w2 w' → Calls Tryz.prog 22 #[t.v, .slice A n c] w' fun e w'' => e = .returned (.bool (isNfc T l)) ∧ Ext w' w'') := Lib.hid (fun w' h => risnfc_spec T t l A n c w' (HT.out.ext_ (HB2.out.trans' h)) (HI.out.ext (HB2.out.trans' h)))
  have HQK : Hid (∀ w', Ext w2 w' → Calls Tryz.prog 23 #[t.v, .slice A n c] w' fun e w'' => e = .returned (.int .i64 (qkT T l)) ∧ Ext w' w'') := Lib.hid (fun w' h => quick_spec T t l A n c w' (HT.out.ext_ (HB2.out.trans' h)) (HI.out.ext (HB2.out.trans' h)))
  have HRQ : Hid (∀ w', Ext w2 w' → Calls Tryz.prog 40 #[t.v, .slice A n c] w' fun e w'' => e = .returned (.int .i64 (qkT T l)) ∧ Ext w' w'') := Lib.hid (fun w' h => rquick_spec T t l A n c w' (HT.out.ext_ (HB2.out.trans' h)) (HI.out.ext (HB2.out.trans' h)))
  clear HX1 HI2
  generalize isNfc T l = p at *
  generalize qkT T l = q at *
  generalize nfdErr T l = z at *
  have ez : (z == z) = true := by simp
  have ep : (p == p) = true := by simp
  have eq : (q == q) = true := by simp
  have rT : ∀ yy : ExtW w2, ∀ k : Nat, yy.w.cell? ⟨w.heap.size, k, none⟩ = t.v.cells[k]? := fun yy => box_at (HB2.out.trans' yy.h)
  go_wp2_with fail
  refine region_ext (by kernel_rfl) (by kernel_rfl) ?_
  repeat (go_big_quiet_step (first
    | (go_at_call 17; with_reducible exact quiet_ext (HSA.out _ (ExtW.h _)))
    | (go_at_call 18; with_reducible exact quiet_ext (HIS.out _ (ExtW.h _)))
    | (go_at_call 22; with_reducible exact quiet_ext (HRI.out _ (ExtW.h _)))
    | (go_at_call 23; with_reducible exact quiet_ext (HQK.out _ (ExtW.h _)))
    | (go_at_call 40; with_reducible exact quiet_ext (HRQ.out _ (ExtW.h _)))))
  refine wpQuiet_nil ?_
  rintro _ ⟨x, rfl⟩
  have hb := (hba.trans' HB2.out).trans' x.h
  clear rT
  go_wp2_with fail
  go_ret
  exact ⟨rfl, hb⟩
end Go.Proofs.YtcjkikbnjadmfaaGreatDoor
