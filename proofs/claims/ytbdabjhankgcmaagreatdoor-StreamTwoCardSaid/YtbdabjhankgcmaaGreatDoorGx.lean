/- Walks: slices.Equal, compose.NFC, IsNFC. Walks: order.Sorted, compose.Quick. Walk: namedesklaw8.example. Walk: namedesklaw8.awake. -/
import Derived.Test.YtbdabjhankgcmaaGreatDoorCf
import Derived.Test.YtbdabjhankgcmaaGreatDoorGh
import Derived.Test.YtbdabjhankgcmaaGreatDoorGy
import Derived.Test.YtbdabjhankgcmaaGreatDoorGv
import Derived.Laws.Tables
import Derived.Laws.Rows
namespace Go.Proofs.YtbdabjhankgcmaaGreatDoor
open Go.RowKit
set_option maxHeartbeats 800000 in
set_option maxRecDepth 100000 in
theorem equal_spec (l m : List Int) (A : Option Addr) (n c : Nat) (A2 : Option Addr) (n2 c2 : Nat) (w : World) (h : IntS w ⟨A, n, c⟩ l) (h2 : IntS w ⟨A2, n2, c2⟩ m) :
  Calls Tryz.prog 111 #[.slice A n c, .slice A2 n2 c2] w fun e w' => e = .returned (.bool (sameB l m)) ∧ Ext w w' := by
 obtain ⟨hn, _, _⟩ := h.len
 obtain ⟨hn2, _, _⟩ := h2.len
 subst hn hn2
 have HI := Lib.hid h
 have HJ := Lib.hid h2
 by_cases hlen : l.length = m.length
 ·have hb : ((l.length : Int) != (m.length : Int)) = false := by rw [hlen]; simp
  have HL := Lib.hid hlen
  have HLi : Hid ((m.length : Int) = (l.length : Int)) := Lib.hid (by rw [hlen])
  clear hlen
  go_enter Tryz.func111, Tryz.ntmps111
  go_wp2_with fail
  go_loopw [13] (fun i wr => ∃ (k : Nat), k ≤ l.length ∧ i = .int .i64 k ∧ Hid (sameB l m = sameB (l.drop k) (m.drop k)) ∧ Ext w wr) (fun i _ => l.length - (intOf i).toNat)
  case atStart => exact ⟨0, Nat.zero_le _, rfl, rfl, Ext.refl _⟩
  case round =>
   obtain ⟨k, hk, rfl, HR, hbr⟩ := hrel
   by_cases hlt : k < l.length
   ·have hlt2 : k < m.length := by rw [← HL.out]; exact hlt
    obtain ⟨b, o, ha, g0⟩ := (HI.out.ext hbr).at_ hlt
    obtain ⟨b2, o2, ha2, g2⟩ := (HJ.out.ext hbr).at_ hlt2
    subst ha ha2
    have HD : Hid (l.drop k = l[k] :: l.drop (k + 1)) := drop_at l k hlt
    have HE : Hid (m.drop k = m[k] :: m.drop (k + 1)) := drop_at m k hlt2
    generalize l[k] = x at *
    generalize m[k] = y at *
    have HS := hid_trans HR (show _ = (x == y && sameB (l.drop (k + 1)) (m.drop (k + 1))) from by rw [HD.out, HE.out]; rfl)
    clear HR HD HE
    have r0 : ∀ yy : ExtW wr, yy.w.cell? ⟨b, o + k, none⟩ = some (.int .i64 x) := ext_cell g0
    have r1 : ∀ yy : ExtW wr, yy.w.cell? ⟨b2, o2 + k, none⟩ = some (.int .i64 y) := ext_cell g2
    have hi0 : (0 : Int) ≤ (k : Int) := Int.natCast_nonneg _
    have hi1 : (k : Int) < (l.length : Int) := by omega
    have hi2 : (k : Int) < (m.length : Int) := by omega
    go_wp2_with fail
    refine region_ext (by kernel_rfl) (by kernel_rfl) ?_
    repeat (go_big_quiet_step (fail))
    refine wpQuiet_nil ?_
    rintro _ ⟨xw, rfl⟩
    have hbx := hbr.trans' xw.h
    clear r0 r1 g0 g2
    by_cases hxy : x = y
    ·have hxb : (x != y) = false := by rw [hxy]; simp
     have HF := hid_trans HS (show _ = sameB (l.drop (k + 1)) (m.drop (k + 1)) from by rw [hxy]; simp)
     clear HS hxy
     go_wp2_with fail
     go_roundw
     case rel => exact ⟨k + 1, by omega, by go_num, HF, hbx⟩
     case measure => simp [intOf]; omega
    ·have hxb : (x != y) = true := by rw [bne_iff_ne]; exact hxy
     have HF := hid_trans HS (show _ = false from by rw [beq_eq_false_iff_ne.2 hxy]; rfl)
     clear HS hxy
     go_wp2_with fail
     go_ret
     exact ⟨ret_bool HF.out.symm, hbx⟩
   ·have HF := hid_trans HR (show _ = true from by rw [drop_all l k (by omega), drop_all m k (by rw [← HL.out]; omega)]; rfl)
    clear HR
    go_wp2_with fail
    go_ret
    exact ⟨ret_bool HF.out.symm, hbr⟩
 ·have hb : ((l.length : Int) != (m.length : Int)) = true := by rw [bne_iff_ne]; omega
  have HF := Lib.hid (sameB_len l m hlen)
  clear hlen
  go_enter Tryz.func111, Tryz.ntmps111
  go_wp2_with fail
  go_ret
  exact ⟨ret_bool HF.out.symm, Ext.refl _⟩
def nfcRes (T : Tbl) (l : List Int) : List Int := if nfdErr T l = 0 then nfcT T l else []
theorem nfd_zero {T : Tbl} {l : List Int} (hz : nfdErr T l = 0) : wfB T = true ∧ (nfdT T l).length ≤ 4096 := by
 unfold nfdErr at hz
 by_cases ho : ordErr T l = 0
 ·rw [if_neg (by rw [ho]; simp)] at hz
  refine ⟨(ord_zero ho).1, ?_⟩
  by_cases h5 : 4096 < ((nfdT T l).length : Int)
  ·rw [if_pos h5] at hz; omega
  ·omega
 ·rw [if_pos ho] at hz; exact absurd hz ho
set_option maxHeartbeats 1600000 in
set_option maxRecDepth 100000 in
theorem nfc_own (T : Tbl) (t : TV) (l : List Int) (A : Option Addr) (n c : Nat) (w : World) (ht : TblS w t T) (hi : IntS w ⟨A, n, c⟩ l) :
  Calls Tryz.prog 17 #[t.v, .slice A n c] w fun e w' => ∃ B m d, e = .returned (.tuple #[.slice B m d, .int .i64 (nfdErr T l)]) ∧ Ext w w' ∧ IntS w' ⟨B, m, d⟩ (nfcRes T l) ∧ ∀ b, blkOf B = some b → w.heap.size ≤ b := by
 have hba := tw_ext w t
 have HT := Lib.hid (ht.ext_ hba)
 have HI := Lib.hid (hi.ext hba)
 clear ht hi
 go_enter Tryz.func17, Tryz.ntmps17
 go_wp2_with fail
 refine (nfd_spec T t l A n c _ HT.out HI.out).mono ?_
 rintro e w1 ⟨B, m, d, rfl, hb1, hi1⟩
 have HB1 := Lib.hid hb1
 have HI1 := Lib.hid hi1
 have rT : ∀ k : Nat, w1.cell? ⟨w.heap.size, k, none⟩ = t.v.cells[k]? := box_at hb1
 clear hb1 hi1
 by_cases hz : nfdErr T l = 0
 ·have hzb : (nfdErr T l == 0) = true := by rw [beq_iff_eq]; exact hz
  have HI2 : Hid (IntS w1 ⟨B, m, d⟩ (nfdT T l)) := Lib.hid (by have := HI1.out; rw [nfdRes, if_pos hz] at this; exact this)
  have HZ := Lib.hid hz
  have HWL := Lib.hid (nfd_zero hz)
  clear hz HI1
  go_wp2_with fail
  refine (cform_own T HWL.out.1 t (nfdT T l) B m d _ (HT.out.ext_ HB1.out) HI2.out (by have := HWL.out.2; omega)).mono ?_
  rintro e w2 ⟨B2, m2, d2, rfl, hi2, hb2, hf2⟩
  have HI3 := Lib.hid hi2
  have hb := (hba.trans' HB1.out).trans' hb2
  have HF2 : Hid (∀ b, blkOf B2 = some b → w.heap.size ≤ b) := Lib.hid (fun b h => Nat.le_trans (hba.trans' HB1.out).b.size (hf2 b h))
  clear hi2 hb2 hf2
  go_wp2_with fail
  go_ret2
  exact ⟨B2, m2, d2, by rw [HZ.out]; rfl, hb, by rw [nfcRes, HZ.out, if_pos rfl]; exact HI3.out, HF2.out⟩
 ·have hzb : (nfdErr T l == 0) = false := by rw [beq_eq_false_iff_ne]; exact hz
  have HZ := Lib.hid hz
  have hb := hba.trans' HB1.out
  clear hz
  go_wp2_with fail
  go_ret2
  exact ⟨none, 0, 0, rfl, hb, by rw [nfcRes, if_neg HZ.out]; exact IntS.nil_ _, fun b h => by cases h⟩
theorem nfc_spec (T : Tbl) (t : TV) (l : List Int) (A : Option Addr) (n c : Nat) (w : World) (ht : TblS w t T) (hi : IntS w ⟨A, n, c⟩ l) :
  Calls Tryz.prog 17 #[t.v, .slice A n c] w fun e w' => ∃ B m d, e = .returned (.tuple #[.slice B m d, .int .i64 (nfdErr T l)]) ∧ Ext w w' ∧ IntS w' ⟨B, m, d⟩ (nfcRes T l) :=
 (nfc_own T t l A n c w ht hi).mono fun _ _ ⟨B, m, d, h1, h2, h3, _⟩ => ⟨B, m, d, h1, h2, h3⟩
def isNfc (T : Tbl) (l : List Int) : Bool := (nfdErr T l == 0) && sameB (nfcRes T l) l
set_option maxHeartbeats 1600000 in
set_option maxRecDepth 100000 in
theorem isnfc_spec (T : Tbl) (t : TV) (l : List Int) (A : Option Addr) (n c : Nat) (w : World) (ht : TblS w t T) (hi : IntS w ⟨A, n, c⟩ l) :
  Calls Tryz.prog 62 #[t.v, .slice A n c] w fun e w' => e = .returned (.bool (isNfc T l)) ∧ Ext w w' := by
 have hba := tw_ext w t
 have HT := Lib.hid (ht.ext_ hba)
 have HI := Lib.hid (hi.ext hba)
 clear ht hi
 go_enter Tryz.func62, Tryz.ntmps62
 go_wp2_with fail
 refine (nfc_spec T t l A n c _ HT.out HI.out).mono ?_
 rintro e w1 ⟨B, m, d, rfl, hb1, hi1⟩
 have HB1 := Lib.hid hb1
 have HI1 := Lib.hid hi1
 clear hb1 hi1
 cases hz : (nfdErr T l == 0)
 ·have HZ : Hid (isNfc T l = false) := Lib.hid (by rw [isNfc, hz]; rfl)
  have hb := hba.trans' HB1.out
  go_wp2_with fail
  go_ret
  exact ⟨ret_bool HZ.out.symm, hb⟩
 ·have HZ : Hid (isNfc T l = sameB (nfcRes T l) l) := Lib.hid (by rw [isNfc, hz]; rfl)
  go_wp2_with (go_at_call 111; refine (equal_spec (nfcRes T l) l B m d A n c _ HI1.out (HI.out.ext HB1.out)).mono ?_; rintro e w2 ⟨rfl, hb2⟩)
  have hb := (hba.trans' HB1.out).trans' hb2
  go_ret
  exact ⟨ret_bool HZ.out.symm, hb⟩
end Go.Proofs.YtbdabjhankgcmaaGreatDoor
namespace Go.Proofs.YtbdabjhankgcmaaGreatDoor
open Go.RowKit
def sortedV (T : Tbl) (l : List Int) : Bool := (ordErr T l == 0) && sameB (srtT T l) l
set_option maxHeartbeats 1600000 in
set_option maxRecDepth 100000 in
theorem sorted_spec (T : Tbl) (t : TV) (l : List Int) (A : Option Addr) (n c : Nat) (w : World) (ht : TblS w t T) (hi : IntS w ⟨A, n, c⟩ l) :
  Calls Tryz.prog 106 #[t.v, .slice A n c] w fun e w' => e = .returned (.bool (sortedV T l)) ∧ Ext w w' := by
 have hba := tw_ext w t
 have HT := Lib.hid (ht.ext_ hba)
 have HI := Lib.hid (hi.ext hba)
 clear ht hi
 go_enter Tryz.func106, Tryz.ntmps106
 go_wp2_with fail
 refine (order_spec t T l A n c _ HT.out HI.out).mono ?_
 rintro e w1 ⟨v, rfl, hb1, hv⟩
 have HB1 := Lib.hid hb1
 have HV := Lib.hid hv
 clear hb1 hv
 cases hz : (ordErr T l == 0)
 ·have HZ : Hid (sortedV T l = false) := Lib.hid (by rw [sortedV, hz]; rfl)
  have hb := hba.trans' HB1.out
  go_wp2_with fail
  go_ret
  exact ⟨ret_bool HZ.out.symm, hb⟩
 ·have HZ : Hid (sortedV T l = sameB (srtT T l) l) := Lib.hid (by rw [sortedV, hz]; rfl)
  obtain ⟨B, m, d, rfl, hi1⟩ := HV.out (by simpa using hz)
  have HI1 := Lib.hid hi1
  clear hi1 HV
  go_wp2_with (go_at_call 111; refine (equal_spec (srtT T l) l B m d A n c _ HI1.out (HI.out.ext HB1.out)).mono ?_; rintro e w2 ⟨rfl, hb2⟩)
  have hb := (hba.trans' HB1.out).trans' hb2
  go_ret
  exact ⟨ret_bool HZ.out.symm, hb⟩
def qkT (T : Tbl) (l : List Int) : Int := if ordErr T l = 0 then qckT T l else 0
def QkLoop (T : Tbl) (w1 : World) (l : List Int) (gh : Nat) (s6 s18 : Value) (wx : World) : Prop :=
 ∃ (k : Nat) (res : Int), k + gh = l.length ∧ s18 = .int .i64 k ∧ s6 = .int .i64 res ∧ Hid (Ext w1 wx) ∧ Hid (res = if (l.take k).any (mayB T) = true then 2 else 1) ∧ Hid ((l.take k).any (noB T) = false)
theorem any_take {f : Int → Bool} {l : List Int} {k : Nat} (h : k < l.length) : (l.take (k + 1)).any f = ((l.take k).any f || f l[k]) := by
 rw [List.take_succ_eq_append_getElem h, List.any_append]; simp
theorem any_mem {f : Int → Bool} {l : List Int} {k : Nat} (h : k < l.length) (hf : f l[k] = true) : l.any f = true := List.any_eq_true.2 ⟨_, List.getElem_mem h, hf⟩
theorem exp_pos (T : Tbl) (c : Int) : ∃ y r, expT T c = y :: r := by
 have h : 0 < (expT T c).length := by
  unfold expT
  split
  ·simp [hDec]
  ·exact lv_pos _ _ _
 cases he : expT T c with
 | nil => rw [he] at h; simp at h
 | cons y r => exact ⟨y, r, rfl⟩
set_option maxHeartbeats 3200000 in
set_option maxRecDepth 100000 in
theorem quick_spec (T : Tbl) (t : TV) (l : List Int) (A : Option Addr) (n c : Nat) (w : World) (ht : TblS w t T) (hi : IntS w ⟨A, n, c⟩ l) :
  Calls Tryz.prog 61 #[t.v, .slice A n c] w fun e w' => e = .returned (.int .i64 (qkT T l)) ∧ Ext w w' := by
 have hba := tw_ext w t
 have HT := Lib.hid (ht.ext_ hba)
 have HI := Lib.hid (hi.ext hba)
 have hn := hi.len.1
 subst hn
 clear ht hi
 go_enter Tryz.func61, Tryz.ntmps61
 go_wp2_with fail
 refine (sorted_spec T t l A _ c _ HT.out HI.out).mono ?_
 rintro e w1 ⟨rfl, hb1⟩
 have HB1 := Lib.hid hb1
 have rT : ∀ k : Nat, w1.cell? ⟨w.heap.size, k, none⟩ = t.v.cells[k]? := box_at hb1
 clear hb1
 cases hz : sortedV T l
 ·have HZ : Hid (qkT T l = 0) := Lib.hid (by
   unfold sortedV at hz
   unfold qkT qckT
   by_cases h0 : ordErr T l = 0
   ·rw [h0] at hz
    have h2 : srtT T l ≠ l := fun h => by rw [(sameB_eq _ _).2 h] at hz; cases hz
    rw [if_pos h0, if_pos h2]
   ·rw [if_neg h0])
  have hb := hba.trans' HB1.out
  go_wp2_with fail
  go_ret
  exact ⟨ret_int HZ.out.symm, hb⟩
 ·have h0 : ordErr T l = 0 ∧ srtT T l = l := by
   unfold sortedV at hz
   simp only [Bool.and_eq_true, beq_iff_eq] at hz
   exact ⟨hz.1, (sameB_eq _ _).1 hz.2⟩
  obtain ⟨hw, hl⟩ := ord_zero h0.1
  have HW := Lib.hid hw
  have HC := Lib.hid (wfc_of hw)
  have HSR := Lib.hid (wf_srt hw)
  have HNE := Lib.hid (wf_non hw)
  have HV : Hid (qkT T l = if l.any (noB T) = true then 0 else if l.any (mayB T) = true then 2 else 1) := Lib.hid (by
   rw [qkT, if_pos h0.1, qckT, if_neg (by rw [h0.2]; simp)])
  clear h0 hw
  go_wp2_with fail
  refine (collect_spec t T _ (HT.out.ext_ HB1.out) HW.out).mono ?_
  rintro e w2 ⟨r, rfl, _, hpm, hb2⟩
  have HPM := Lib.hid hpm
  have HB2 := Lib.hid (HB1.out.trans' hb2)
  clear hpm hb2 rT
  go_wp2_with fail
  go_loopg [6, 18] l.length (fun gh s6 s18 wx => QkLoop T w2 l gh s6 s18 wx)
  case atStart => exact ⟨0, 1, by omega, rfl, rfl, Lib.hid (Ext.refl _), Lib.hid rfl, Lib.hid rfl⟩
  case round =>
   obtain ⟨k, res, hkg, rfl, rfl, HB, HM, HN⟩ := hrel
   have HBW := Lib.hid (HB2.out.trans' HB.out)
   have HIR := Lib.hid (HI.out.ext HBW.out)
   by_cases hlt : k < l.length
   ·obtain ⟨gk', rfl⟩ : ∃ g', gk = g' + 1 := ⟨gk - 1, by omega⟩
    obtain ⟨b, o, hA, hcx⟩ := HIR.out.at_ hlt
    subst hA
    have HM1 := Lib.hid (any_take (f := mayB T) hlt)
    have HN1 := Lib.hid (any_take (f := noB T) hlt)
    have HNM := Lib.hid (any_mem (f := noB T) hlt)
    generalize l[k] = x at *
    have hk0 : (0 : Int) ≤ (k : Int) := Int.natCast_nonneg _
    have hk1 : (k : Int) < (l.length : Int) := by omega
    have rT : ∀ k : Nat, wr.cell? ⟨w.heap.size, k, none⟩ = t.v.cells[k]? := box_at HBW.out
    have hto : (mpFind T.dec x).length ≤ 1000 := by
     by_cases hne : mpFind T.dec x = []
     ·rw [hne]; simp
     ·obtain ⟨m, hm, _, hto⟩ := mem_find hne
      have := (HC.out.len m hm).2
      rw [hto]; omega
    have HTO := Lib.hid hto
    clear hto
    go_wp2_with fail
    refine (decomp_spec t T x _ (HT.out.ext_ HBW.out) HSR.out HNE.out HTO.out).mono ?_
    rintro e w3 ⟨B, m, d, rfl, hi3, hnil, hb3⟩
    have HB3 := Lib.hid (HBW.out.trans' hb3)
    have HI3 := Lib.hid (OwnI.ints hi3)
    have HE3 := Lib.hid hb3
    have rT3 : ∀ k : Nat, w3.cell? ⟨w.heap.size, k, none⟩ = t.v.cells[k]? := box_at HB3.out
    obtain ⟨y, ry, hxy⟩ := exp_pos T x
    have HMB : Hid (mayB T x = secT T y) := Lib.hid (by rw [mayB, hxy]; rfl)
    have HXY := Lib.hid hxy
    rcases find_cases HI3.out hnil with ⟨he, rfl, rfl, rfl⟩ | ⟨b3, o3, he, rfl⟩
    ·have HNO : Hid (noB T x = false) := Lib.hid (by rw [noB, he]; rfl)
     clear hi3 hnil hb3 rT hxy he hcx
     go_wp2_with fail
     refine (full_spec T HW.out t x _ (HT.out.ext_ HB3.out)).mono ?_
     rintro e w5 ⟨A5, n5, q5, rfl, hi5, hb5⟩
     rw [HXY.out] at hi5
     have hn5 := hi5.len.1
     obtain ⟨b5, o5, rfl, hc5⟩ := hi5.at_ (i := 0) (by simp)
     simp only [Nat.add_zero, List.getElem_cons_zero] at hc5
     have hn50 : (0 : Int) < (n5 : Int) := by rw [hn5]; simp
     have hn51 : 0 < n5 := by omega
     have HE5 := Lib.hid ((HB.out.trans' HE3.out).trans' hb5)
     have HP5 := Lib.hid (HPM.out.ext HE5.out)
     clear hi5 hn5 hb5 rT3
     go_wp2_with fail
     refine (second_spec T r y _ HP5.out).mono ?_
     rintro e w6 ⟨rfl, hb6⟩
     have HE6 := Lib.hid (HE5.out.trans' hb6)
     clear hb6 hc5
     cases hs : secT T y
     all_goals
      have HMX := Lib.hid (HMB.out.trans hs)
      clear hs
      go_wp2_with fail
      go_roundg gk'
      case measure => omega
      case rel => exact ⟨k + 1, _, by omega, by go_num, rfl, HE6, Lib.hid (by rw [HM1.out, HMX.out]; first | (rw [Bool.or_false]; exact HM.out) | simp), Lib.hid (by rw [HN1.out, HN.out, HNO.out]; rfl)⟩
    ·have HEM : Hid ((mpFind T.dec x).isEmpty = false) := Lib.hid (by cases hm : mpFind T.dec x with | nil => exact absurd hm he | cons y r => rfl)
     have HCO := Lib.hid (composable_spec T HSR.out HNE.out HC.out.fin t x (some ⟨b3, o3, none⟩) m d (mpFind T.dec x) w3 (HT.out.ext_ HB3.out) HI3.out)
     clear hi3 hnil hb3 rT hxy he hcx
     cases hct : compT T ⟨x, mpFind T.dec x⟩
     ·rw [hct] at HCO
      have HF : Hid (qkT T l = 0) := Lib.hid (by rw [HV.out, if_pos (HNM.out (by rw [noB, HEM.out, hct]; rfl))])
      clear hct
      go_wp2_with (go_at_call 108; refine HCO.out.mono ?_; rintro e w4 ⟨rfl, hb4⟩; have hb := hba.trans' (HB3.out.trans' hb4))
      go_ret
      exact ⟨ret_int HF.out.symm, hb⟩
     ·rw [hct] at HCO
      have HNO : Hid (noB T x = false) := Lib.hid (by rw [noB, hct]; simp)
      clear hct
      go_upto_region 11 with (go_at_call 108; refine HCO.out.mono ?_; rintro e w4 ⟨rfl, hb4⟩; have rT4 : ∀ k : Nat, w4.cell? ⟨w.heap.size, k, none⟩ = t.v.cells[k]? := box_at (HB3.out.trans' hb4))
      have HB4 := Lib.hid (HB3.out.trans' hb4)
      have HE4 := Lib.hid (HE3.out.trans' hb4)
      clear hb4 rT3
      go_wp2_with fail
      refine (full_spec T HW.out t x _ (HT.out.ext_ HB4.out)).mono ?_
      rintro e w5 ⟨A5, n5, q5, rfl, hi5, hb5⟩
      rw [HXY.out] at hi5
      have hn5 := hi5.len.1
      obtain ⟨b5, o5, rfl, hc5⟩ := hi5.at_ (i := 0) (by simp)
      simp only [Nat.add_zero, List.getElem_cons_zero] at hc5
      have hn50 : (0 : Int) < (n5 : Int) := by rw [hn5]; simp
      have hn51 : 0 < n5 := by omega
      have HE5 := Lib.hid ((HB.out.trans' HE4.out).trans' hb5)
      have HP5 := Lib.hid (HPM.out.ext HE5.out)
      clear hi5 hn5 hb5 rT4
      go_wp2_with fail
      refine (second_spec T r y _ HP5.out).mono ?_
      rintro e w6 ⟨rfl, hb6⟩
      have HE6 := Lib.hid (HE5.out.trans' hb6)
      clear hb6 hc5
      cases hs : secT T y
      all_goals
       have HMX := Lib.hid (HMB.out.trans hs)
       clear hs
       go_wp2_with fail
       go_roundg gk'
       case measure => omega
       case rel => exact ⟨k + 1, _, by omega, by go_num, rfl, HE6, Lib.hid (by rw [HM1.out, HMX.out]; first | (rw [Bool.or_false]; exact HM.out) | simp), Lib.hid (by rw [HN1.out, HN.out, HNO.out]; rfl)⟩
   ·have HF : Hid (qkT T l = res) := Lib.hid (by
     have h1 := HN.out
     have h2 := HM.out
     rw [List.take_of_length_le (by omega)] at h1 h2
     rw [HV.out, if_neg (by rw [h1]; simp), h2])
    have hb := hba.trans' HBW.out
    go_wp2_with fail
    go_ret
    exact ⟨ret_int HF.out.symm, hb⟩
end Go.Proofs.YtbdabjhankgcmaaGreatDoor
namespace Go.Proofs.YtbdabjhankgcmaaGreatDoor
open Go.RowKit
def exC : Tbl := ⟨[], [⟨769, 769, 230⟩], [], [], [], [], [], [], [], [⟨233, [101, 769]⟩], [], []⟩
def CTabIs (w : World) (T : Tbl) (e : Ending) (w' : World) : Prop := ∃ t : TV, e = .returned t.v ∧ TblS w' t T ∧ Ext w w'
theorem one_map {w : World} {b : Nat} {lo : Int} {za : Option Addr} {zn zc : Nat} {ts : List Int} (h0 : w.cell? ⟨b, 0, none⟩ = some (.int .i64 lo)) (h1 : w.cell? ⟨b, 1, none⟩ = some (.slice za zn zc)) (hz : IntS w ⟨za, zn, zc⟩ ts) : MapS w ⟨some ⟨b, 0, none⟩, 1, 1⟩ [⟨lo, ts⟩] := by
 refine ⟨⟨rfl, Nat.le_refl _, by simp [maxLen]⟩, fun i m hm => ?_⟩
 match i, hm with
 | 0, hm => simp at hm; subst hm; exact ⟨b, 0, za, zn, zc, rfl, h0, h1, hz⟩
 | i + 1, hm => simp at hm
set_option maxHeartbeats 800000 in
set_option maxRecDepth 100000 in
theorem cexample_spec (w : World) (hg : Glob w) : Calls Tryz.prog 60 #[] w (CTabIs w exC) := by
 have HG := Lib.hid hg
 clear hg
 go_enter Tryz.func60, Tryz.ntmps60
 go_wp2_with fail
 let o1 : Obj := .cells #[.slice none 0 0, .slice (some ⟨w.heap.size + 1, 0, none⟩) 1 1, .slice none 0 0, .slice none 0 0, .slice none 0 0, .slice none 0 0, .slice none 0 0, .slice none 0 0, .slice none 0 0, .slice (some ⟨w.heap.size + 3, 0, none⟩) 1 1, .slice none 0 0, .slice none 0 0] 26
 let o2 : Obj := .cells #[.int .i64 769, .int .i64 769, .int .i64 230] 54
 let o3 : Obj := .cells #[.int .i64 101, .int .i64 769] 3
 let o4 : Obj := .cells #[.int .i64 233, .slice (some ⟨w.heap.size + 2, 0, none⟩) 2 2] 74
 have hx1 : Ext w (w.alloc o1) := (Ext.refl w).alloc_ _
 have hx2 : Ext ((w.alloc o1).alloc o2) ((((w.alloc o1).alloc o2).alloc o3).alloc o4) := ((Ext.refl _).alloc_ _).alloc_ _
 have hx3 : Ext (((w.alloc o1).alloc o2).alloc o3) ((((w.alloc o1).alloc o2).alloc o3).alloc o4) := (Ext.refl _).alloc_ _
 have hx : Ext w ((((w.alloc o1).alloc o2).alloc o3).alloc o4) := (((hx1).alloc_ _).alloc_ _).alloc_ _
 have hh : ((((w.alloc o1).alloc o2).alloc o3).alloc o4).heap[w.heap.size]? = some o1 := by
  rw [heap_alloc_old _ _ (by simp; omega), heap_alloc_old _ _ (by simp; omega), heap_alloc_old _ _ (by simp)]
  exact heap_alloc_new _ _
 refine bodyPost_ret (v := (⟨nilSV, ⟨some ⟨w.heap.size + 1, 0, none⟩, 1, 1⟩, nilSV, nilSV, nilSV, nilSV, nilSV, nilSV, nilSV, ⟨some ⟨w.heap.size + 3, 0, none⟩, 1, 1⟩, nilSV, nilSV⟩ : TV).v) (results_cell_row (p := 0) (ty := 26) (by kernel_rfl) _ _ w.heap.size 26 _ (0, 0) _ (by rfl) hh Tryz.underlying26 rfl (by kernel_rfl)) rfl ⟨_, rfl, ?_, hx⟩
 have hi : IntS ((((w.alloc o1).alloc o2).alloc o3).alloc o4) ⟨some ⟨w.heap.size + 2, 0, none⟩, 2, 2⟩ [101, 769] := by
  have := (ints_new ((w.alloc o1).alloc o2) [101, 769] _ (by simp [maxLen])).ext hx3
  simpa using this
 have hs : SpanS ((((w.alloc o1).alloc o2).alloc o3).alloc o4) ⟨some ⟨w.heap.size + 1, 0, none⟩, 1, 1⟩ [⟨769, 769, 230⟩] := SpanS.ext (one_span' (by simp) _ _ _ _) hx2
 have hm : MapS ((((w.alloc o1).alloc o2).alloc o3).alloc o4) ⟨some ⟨w.heap.size + 3, 0, none⟩, 1, 1⟩ [⟨233, [101, 769]⟩] := by
  refine one_map (za := some ⟨w.heap.size + 2, 0, none⟩) (zn := 2) (zc := 2) ?_ ?_ hi
  ·have := World.cell?_alloc_new (((w.alloc o1).alloc o2).alloc o3) #[.int .i64 233, .slice (some ⟨w.heap.size + 2, 0, none⟩) 2 2] 74 0
   simpa using this
  ·have := World.cell?_alloc_new (((w.alloc o1).alloc o2).alloc o3) #[.int .i64 233, .slice (some ⟨w.heap.size + 2, 0, none⟩) 2 2] 74 1
   simpa using this
 exact ⟨SpanS.nil_ _, hs, SpanS.nil_ _, SpanS.nil_ _, SpanS.nil_ _, SpanS.nil_ _, SpanS.nil_ _, MapS.nil_ _, MapS.nil_ _, hm, IntS.nil_ _, MapS.nil_ _, HG.out.ext hx⟩
theorem cex1 : nfdErr exC [101, 769] = 0 ∧ nfcRes exC [101, 769] = [233] := by decide +kernel
theorem cex2 : qkT exC [101, 769] = 2 := by decide +kernel
theorem cex3 : isNfc exC [233] = true := by decide +kernel
end Go.Proofs.YtbdabjhankgcmaaGreatDoor
namespace Go.Proofs.YtbdabjhankgcmaaGreatDoor
open Go.RowKit
theorem cex4 : sameB [233] [233] = true := by decide
set_option maxHeartbeats 1600000 in
set_option maxRecDepth 100000 in
theorem c8awake_spec (w : World) (hg : Glob w) : Calls Tryz.prog 19 #[] w fun e w' => e = .returned (.bool true) ∧ Ext w w' := by
 have HG := Lib.hid hg
 clear hg
 go_enter Tryz.func19, Tryz.ntmps19
 go_wp2_with fail
 refine (cexample_spec w HG.out).mono ?_
 rintro e w1 ⟨t1, rfl, ht1, hb1⟩
 have hx1 : Ext w1 (w1.alloc (.cells #[.int .i64 101, .int .i64 769] 3)) := (Ext.refl _).alloc_ _
 have HT1 := Lib.hid (ht1.ext_ hx1)
 have hbx := hb1.trans' hx1
 clear ht1
 go_wp2_with fail
 refine (nfc_spec exC t1 [101, 769] _ 2 2 _ HT1.out (ints_new w1 [101, 769] 3 (by simp [maxLen]))).mono ?_
 rintro e w2 ⟨B, m, d, rfl, hb2, hi2⟩
 rw [cex1.2] at hi2
 rw [cex1.1]
 have HI2 := Lib.hid hi2
 have HB2 := Lib.hid (hbx.trans' hb2)
 have hx2 : Ext w2 (w2.alloc (.cells #[.int .i64 233] 3)) := (Ext.refl _).alloc_ _
 clear hb1 hx1 hbx hb2 HT1 hi2
 go_wp2_with fail
 refine (same_spec [233] [233] B m d _ 1 1 _ (HI2.out.ext hx2) (ints_new w2 [233] 3 (by simp [maxLen]))).mono ?_
 rintro e w3 ⟨rfl, hb3⟩
 rw [cex4]
 have HB3 := Lib.hid ((HB2.out.trans' hx2).trans' hb3)
 clear hx2 hb3
 go_wp2_with fail
 refine (cexample_spec w3 (HG.out.ext HB3.out)).mono ?_
 rintro e w4 ⟨t4, rfl, ht4, hb4⟩
 have hx4 : Ext w4 (w4.alloc (.cells #[.int .i64 101, .int .i64 769] 3)) := (Ext.refl _).alloc_ _
 have HT4 := Lib.hid (ht4.ext_ hx4)
 have HB4 := Lib.hid ((HB3.out.trans' hb4).trans' hx4)
 clear ht4 hb4 hx4
 go_wp2_with fail
 refine (quick_spec exC t4 [101, 769] _ 2 2 _ HT4.out (ints_new w4 [101, 769] 3 (by simp [maxLen]))).mono ?_
 rintro e w5 ⟨rfl, hb5⟩
 rw [cex2]
 have HB5 := Lib.hid (HB4.out.trans' hb5)
 clear hb5
 go_wp2_with fail
 refine (cexample_spec w5 (HG.out.ext HB5.out)).mono ?_
 rintro e w6 ⟨t6, rfl, ht6, hb6⟩
 have hx6 : Ext w6 (w6.alloc (.cells #[.int .i64 233] 3)) := (Ext.refl _).alloc_ _
 have HT6 := Lib.hid (ht6.ext_ hx6)
 have HB6 := Lib.hid ((HB5.out.trans' hb6).trans' hx6)
 clear ht6 hb6 hx6
 go_wp2_with fail
 refine (isnfc_spec exC t6 [233] _ 1 1 _ HT6.out (ints_new w6 [233] 3 (by simp [maxLen]))).mono ?_
 rintro e w7 ⟨rfl, hb7⟩
 rw [cex3]
 have hb := HB6.out.trans' hb7
 clear hb7
 go_wp2_with fail
 go_ret
 exact ⟨rfl, hb⟩
end Go.Proofs.YtbdabjhankgcmaaGreatDoor
