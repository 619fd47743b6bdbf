/- Walks: valid.Check and the reference's CheckLabel. (By program: hc_gen.py.) -/
import Derived.Test.YtbdabjhankgcmaaDoorHa
import Derived.Test.YtbdabjhankgcmaaDoorHb
import Derived.Test.YtbdabjhankgcmaaDoorGf
import Derived.Test.YtbdabjhankgcmaaDoorGg
import Derived.Test.YtbdabjhankgcmaaDoorGx
import Derived.Deep.LoopGhost
namespace Go.Proofs.YtbdabjhankgcmaaDoor
open Go.RowKit
def badB (T : Tbl) (c : Int) : Bool := c == 46 || (staT T c != 1 && staT T c != 4)
def vchk (T : Tbl) (l : List Int) : Int :=
 if ordErr T l ≠ 0 then ordErr T l else if l.length = 0 then 10 else if isNfc T l = false then 13 else if hypB l = false then 14 else if catT T (l.getD 0 0) = 2 then 15
 else if l.any (badB T) = true then 16 else if (jcheck T l).2 ≠ 0 then (jcheck T l).2 else (ccheck T l).2
def VkLoop (w1 : World) (T : Tbl) (l : List Int) (gh : Nat) (s : Value) (wx : World) : Prop :=
 ∃ k : Nat, k + gh = l.length ∧ s = .int .i64 k ∧ Hid (Ext w1 wx) ∧ Hid ((l.take k).any (badB T) = false)
theorem any_take' {f : Int → Bool} {l : List Int} {k : Nat} (h : k < l.length) : (l.take (k + 1)).any f = ((l.take k).any f || f l[k]) := by
 rw [List.take_succ_eq_append_getElem h, List.any_append]; simp
theorem any_mem' {f : Int → Bool} {l : List Int} {k : Nat} (h : k < l.length) (hf : f l[k] = true) : l.any f = true := List.any_eq_true.2 ⟨_, List.getElem_mem h, hf⟩
set_option maxHeartbeats 6400000 in
set_option maxRecDepth 100000 in
theorem vcheck_spec (T : Tbl) (t : TV) (l : List Int) (A : Option Addr) (n c : Nat) (w : World) (ht : TblS w t T) (hi : IntS w ⟨A, n, c⟩ l) :
  Calls Tryd.prog 9 #[t.v, .slice A n c] w fun e w' => e = .returned (.int .i64 (vchk T l)) ∧ Ext w w' := by
 have hba := tw_ext w t
 have HT := Lib.hid (ht.ext_ hba)
 have HI := Lib.hid (hi.ext hba)
 have hn := hi.len.1
 subst hn
 obtain ⟨V, hV⟩ : ∃ V, V = vchk T l := ⟨_, rfl⟩
 have HV := Lib.hid hV
 rw [← hV]
 clear ht hi hV
 go_enter Tryd.func9, Tryd.ntmps9
 go_wp2_with fail
 refine (order_spec t T l A _ c _ HT.out HI.out).mono ?_
 rintro e w1 ⟨v, rfl, hb1, _⟩
 have HB1 := Lib.hid hb1
 have HRT : Hid (∀ w', Ext w1 w' → ∀ k : Nat, w'.cell? ⟨w.heap.size, k, none⟩ = t.v.cells[k]?) := Lib.hid (fun w' h => box_at (HB1.out.trans' h))
 have HB0 := Lib.hid (hba.trans' hb1)
 clear hb1
 by_cases hz : ordErr T l = 0
 case neg =>
  have HF : Hid (V = ordErr T l) := Lib.hid (by rw [HV.out, vchk, if_pos hz])
  have e1 : (ordErr T l != 0) = true := by rw [bne_iff_ne]; exact hz
  generalize ordErr T l = oe at *
  have hb := HB0.out
  clear hz HV
  go_wp2_with fail
  go_ret
  exact ⟨ret_int HF.out.symm, hb⟩
 have HZ := Lib.hid hz
 have HWF := Lib.hid (ord_zero hz).1
 have hl9 := (ord_zero hz).2
 have HV1 : Hid (V = if l.length = 0 then 10 else if isNfc T l = false then 13 else if hypB l = false then 14 else if catT T (l.getD 0 0) = 2 then 15
 else if l.any (badB T) = true then 16 else if (jcheck T l).2 ≠ 0 then (jcheck T l).2 else (ccheck T l).2) := Lib.hid (by rw [HV.out, vchk, if_neg (by rw [hz]; simp)])
 rw [hz]
 clear hz HV
 have rT1 := HRT.out w1 (Ext.refl _)
 by_cases hl : l.length = 0
 ·have HF : Hid (V = 10) := Lib.hid (by rw [HV1.out, if_pos hl])
  have e1 : (l.length == 0) = true := by rw [beq_iff_eq]; exact hl
  have e2 : ((l.length : Int) == 0) = true := by rw [beq_iff_eq]; omega
  have hb := HB0.out
  clear HV1 hl
  go_wp2_with fail
  go_ret
  exact ⟨ret_int HF.out.symm, hb⟩
 have e1 : (l.length == 0) = false := by rw [beq_eq_false_iff_ne]; exact hl
 have e2 : ((l.length : Int) == 0) = false := by rw [beq_eq_false_iff_ne]; omega
 have HV2 : Hid (V = if isNfc T l = false then 13 else if hypB l = false then 14 else if catT T (l.getD 0 0) = 2 then 15
 else if l.any (badB T) = true then 16 else if (jcheck T l).2 ≠ 0 then (jcheck T l).2 else (ccheck T l).2) := Lib.hid (by rw [HV1.out, if_neg hl])
 clear HV1
 have hl0 : 0 < l.length := by omega
 clear hl
 go_wp2_with fail
 refine (isnfc_spec T t l A _ c _ (HT.out.ext_ HB1.out) (HI.out.ext HB1.out)).mono ?_
 rintro e w2 ⟨rfl, hb2⟩
 have HB2 := Lib.hid hb2
 have rT2 := HRT.out w2 HB2.out
 clear hb2 rT1
 cases hnf : isNfc T l
 ·have HF : Hid (V = 13) := Lib.hid (by rw [HV2.out, if_pos hnf])
  have hb := HB0.out.trans' HB2.out
  clear HV2 hnf
  go_wp2_with fail
  go_ret
  exact ⟨ret_int HF.out.symm, hb⟩
 have HV3 : Hid (V = if hypB l = false then 14 else if catT T (l.getD 0 0) = 2 then 15
 else if l.any (badB T) = true then 16 else if (jcheck T l).2 ≠ 0 then (jcheck T l).2 else (ccheck T l).2) := Lib.hid (by rw [HV2.out, if_neg (by rw [hnf]; simp)])
 clear HV2 hnf
 go_wp2_with fail
 refine (hyphens_spec l A _ c _ (HI.out.ext (HB1.out.trans' HB2.out))).mono ?_
 rintro e w3 ⟨rfl, hb3⟩
 have HB3 := Lib.hid (HB2.out.trans' hb3)
 have rT3 := HRT.out w3 HB3.out
 clear hb3 rT2
 cases hhy : hypB l
 ·have HF : Hid (V = 14) := Lib.hid (by rw [HV3.out, if_pos hhy])
  have hb := HB0.out.trans' HB3.out
  clear HV3 hhy
  go_wp2_with fail
  go_ret
  exact ⟨ret_int HF.out.symm, hb⟩
 have HV4 : Hid (V = if catT T (l.getD 0 0) = 2 then 15 else if l.any (badB T) = true then 16 else if (jcheck T l).2 ≠ 0 then (jcheck T l).2 else (ccheck T l).2) := Lib.hid (by rw [HV3.out, if_neg (by rw [hhy]; simp)])
 clear HV3 hhy
 obtain ⟨b, o, hA, hc0⟩ := HI.out.at_ hl0
 subst hA
 rw [Nat.add_zero] at hc0
 have HX0 : Hid (l.getD 0 0 = l[0]) := Lib.hid (getD_lt l 0 0 hl0)
 have hc3 := keep_cell (ext_keep (HB1.out.trans' HB3.out)) hc0
 rw [HX0.out] at HV4
 clear HX0 hc0
 generalize l[0] = x0 at *
 have hi1 : (0 : Int) < (l.length : Int) := by omega
 have HCT : Hid (∀ w', Ext w3 w' → Calls Tryd.prog 22 #[t.v, .int .i64 x0] w' fun e w'' => e = .returned (.int .i64 (catT T x0)) ∧ Ext w' w'') := Lib.hid (fun w' h => category_spec t T x0 w' (HT.out.ext_ (HB1.out.trans' (HB3.out.trans' h))) (wf_srt HWF.out))
 obtain ⟨q, hq⟩ : ∃ q, catT T x0 = q := ⟨_, rfl⟩
 rw [hq] at HCT HV4
 clear hq rT3
 have rT : ∀ yy : ExtW w3, ∀ k : Nat, yy.w.cell? ⟨w.heap.size, k, none⟩ = t.v.cells[k]? := fun yy => HRT.out _ (HB3.out.trans' yy.h)
 have rX : ∀ yy : ExtW w3, yy.w.cell? ⟨b, o, none⟩ = some (.int .i64 x0) := ext_cell hc3
 go_wp2_with fail
 refine region_ext (by kernel_rfl) (by kernel_rfl) ?_
 repeat (go_big_quiet_step ((go_at_call 22; with_reducible exact quiet_ext (HCT.out _ (ExtW.h _)))))
 refine wpQuiet_nil ?_
 rintro _ ⟨yw, rfl⟩
 clear rT rX hc3 HCT
 obtain ⟨w4, hw4⟩ : ∃ w4 : World, w4 = yw.w := ⟨_, rfl⟩
 have HB4 : Hid (Ext w1 w4) := Lib.hid (by rw [hw4]; exact HB3.out.trans' yw.h)
 rw [← hw4]
 clear hw4
 by_cases hct : q = 2
 ·have HF : Hid (V = 15) := Lib.hid (by rw [HV4.out, if_pos hct])
  have e3 : (q == 2) = true := by rw [beq_iff_eq]; exact hct
  have hb := HB0.out.trans' HB4.out
  clear HV4 hct
  go_wp2_with fail
  go_ret
  exact ⟨ret_int HF.out.symm, hb⟩
 have e3 : (q == 2) = false := by rw [beq_eq_false_iff_ne]; exact hct
 have HV5 : Hid (V = if l.any (badB T) = true then 16 else if (jcheck T l).2 ≠ 0 then (jcheck T l).2 else (ccheck T l).2) := Lib.hid (by rw [HV4.out, if_neg hct])
 clear HV4 hct
 rw [e3]
 go_wp2_with fail
 go_loopg [41] l.length (fun gh s wx => VkLoop w1 T l gh s wx)
 case atStart => exact ⟨0, by omega, rfl, HB4, Lib.hid rfl⟩
 case round =>
  obtain ⟨k, hkg, rfl, HB, HN⟩ := hrel
  have rT := HRT.out wr HB.out
  by_cases hlt : k < l.length
  ·obtain ⟨gk', rfl⟩ : ∃ g', gk = g' + 1 := ⟨gk - 1, by omega⟩
   obtain ⟨b', o', hA', hcx⟩ := (HI.out.ext (HB1.out.trans' HB.out)).at_ hlt
   injection hA' with hA'
   injection hA' with e5 e6
   subst e5 e6
   have HN1 := Lib.hid (any_take' (f := badB T) hlt)
   have HNM := Lib.hid (any_mem' (f := badB T) hlt)
   generalize l[k] = x at *
   have hk0 : (0 : Int) ≤ (k : Int) := Int.natCast_nonneg _
   have hk1 : (k : Int) < (l.length : Int) := by omega
   have HST := Lib.hid (status_spec t T x wr (HT.out.ext_ (HB1.out.trans' HB.out)) (wf_srt HWF.out))
   have HBD : Hid (badB T x = (x == 46 || (staT T x != 1 && staT T x != 4))) := rfl
   obtain ⟨s, hs⟩ : ∃ s, staT T x = s := ⟨_, rfl⟩
   rw [hs] at HST HBD
   clear hs
   go_wp2_with fail
   refine HST.out.mono ?_
   rintro e w5 ⟨rfl, hb5⟩
   have HB5 := Lib.hid (HB.out.trans' hb5)
   clear hb5 rT hcx HST
   cases d1 : (x == 46)
   case true =>
    have HF : Hid (V = 16) := Lib.hid (by rw [HV5.out, if_pos (HNM.out (by rw [HBD.out, d1]; rfl))])
    have hb := HB0.out.trans' HB5.out
    go_wp2_with fail
    go_ret
    exact ⟨ret_int HF.out.symm, hb⟩
   cases d2 : (s != 1)
   case false =>
    have HOK : Hid (badB T x = false) := Lib.hid (by rw [HBD.out, d1, d2]; rfl)
    go_wp2_with fail
    go_roundg gk'
    case measure => omega
    case rel => exact ⟨k + 1, by omega, by go_num, HB5, Lib.hid (by rw [HN1.out, HN.out, HOK.out]; rfl)⟩
   cases d3 : (s != 4)
   case false =>
    have HOK : Hid (badB T x = false) := Lib.hid (by rw [HBD.out, d1, d2, d3]; rfl)
    go_wp2_with fail
    go_roundg gk'
    case measure => omega
    case rel => exact ⟨k + 1, by omega, by go_num, HB5, Lib.hid (by rw [HN1.out, HN.out, HOK.out]; rfl)⟩
   have HF : Hid (V = 16) := Lib.hid (by rw [HV5.out, if_pos (HNM.out (by rw [HBD.out, d1, d2, d3]; rfl))])
   have hb := HB0.out.trans' HB5.out
   go_wp2_with fail
   go_ret
   exact ⟨ret_int HF.out.symm, hb⟩
  ·have HV6 : Hid (V = if (jcheck T l).2 ≠ 0 then (jcheck T l).2 else (ccheck T l).2) := Lib.hid (by
    have h1 := HN.out
    rw [List.take_of_length_le (by omega)] at h1
    rw [HV5.out, if_neg (by rw [h1]; simp)])
   clear HN HV5
   go_wp2_with fail
   refine (jcheck_spec t T l _ _ c _ (HT.out.ext_ (HB1.out.trans' HB.out)) (HI.out.ext (HB1.out.trans' HB.out))).mono ?_
   rintro e w6 ⟨rfl, hb6⟩
   have HB6 := Lib.hid (HB.out.trans' hb6)
   have rT6 := HRT.out w6 HB6.out
   clear hb6 rT hkg hlt
   generalize (jcheck T l).1 = j1 at *
   by_cases hj : (jcheck T l).2 = 0
   ·have HV7 : Hid (V = (ccheck T l).2) := Lib.hid (by rw [HV6.out, if_neg (by rw [hj]; simp)])
    rw [hj]
    clear HV6 hj
    go_wp2_with fail
    refine (ccheck_spec t T l _ _ c _ (HT.out.ext_ (HB1.out.trans' HB6.out)) (HI.out.ext (HB1.out.trans' HB6.out))).mono ?_
    rintro e w7 ⟨rfl, hb7⟩
    have hb := HB0.out.trans' (HB6.out.trans' hb7)
    clear hb7 rT6
    go_wp2_with fail
    go_ret
    exact ⟨ret_int HV7.out.symm, hb⟩
   ·have HF : Hid (V = (jcheck T l).2) := Lib.hid (by rw [HV6.out, if_pos hj])
    have e4 : ((jcheck T l).2 != 0) = true := by rw [bne_iff_ne]; exact hj
    generalize (jcheck T l).2 = j2 at *
    have hb := HB0.out.trans' HB6.out
    clear HV6 hj
    go_wp2_with fail
    go_ret
    exact ⟨ret_int HF.out.symm, hb⟩
end Go.Proofs.YtbdabjhankgcmaaDoor
