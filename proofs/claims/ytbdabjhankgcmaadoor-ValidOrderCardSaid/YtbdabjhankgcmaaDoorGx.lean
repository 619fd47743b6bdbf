/- Walks: slices.Equal, compose.NFC, IsNFC. Walks: order.Sorted, compose.Quick. Walk: namedesklaw8.example. Walk: namedesklaw8.awake. -/
import Derived.Test.YtbdabjhankgcmaaDoorCf
import Derived.Test.YtbdabjhankgcmaaDoorGh
import Derived.Test.YtbdabjhankgcmaaDoorGy
import Derived.Test.YtbdabjhankgcmaaDoorGv
import Derived.Laws.Tables
import Derived.Laws.Rows
namespace Go.Proofs.YtbdabjhankgcmaaDoor
open Go.RowKit
set_option maxHeartbeats 800000 in
set_option maxRecDepth 100000 in
theorem equal_spec (l m : List Int) (A : Option Addr) (n c : Nat) (A2 : Option Addr) (n2 c2 : Nat) (w : World) (h : IntS w ⟨A, n, c⟩ l) (h2 : IntS w ⟨A2, n2, c2⟩ m) :
  Calls Tryd.prog 31 #[.slice A n c, .slice A2 n2 c2] w fun e w' => e = .returned (.bool (sameB l m)) ∧ Ext w w' := by
 obtain ⟨hn, _, _⟩ := h.len
 obtain ⟨hn2, _, _⟩ := h2.len
 subst hn hn2
 have HI := Lib.hid h
 have HJ := Lib.hid h2
 by_cases hlen : l.length = m.length
 ·have hb : ((l.length : Int) != (m.length : Int)) = false := by rw [hlen]; simp
  have HL := Lib.hid hlen
  have HLi : Hid ((m.length : Int) = (l.length : Int)) := Lib.hid (by rw [hlen])
  clear hlen
  go_enter Tryd.func31, Tryd.ntmps31
  go_wp2_with fail
  go_loopw [13] (fun i wr => ∃ (k : Nat), k ≤ l.length ∧ i = .int .i64 k ∧ Hid (sameB l m = sameB (l.drop k) (m.drop k)) ∧ Ext w wr) (fun i _ => l.length - (intOf i).toNat)
  case atStart => exact ⟨0, Nat.zero_le _, rfl, rfl, Ext.refl _⟩
  case round =>
   obtain ⟨k, hk, rfl, HR, hbr⟩ := hrel
   by_cases hlt : k < l.length
   ·have hlt2 : k < m.length := by rw [← HL.out]; exact hlt
    obtain ⟨b, o, ha, g0⟩ := (HI.out.ext hbr).at_ hlt
    obtain ⟨b2, o2, ha2, g2⟩ := (HJ.out.ext hbr).at_ hlt2
    subst ha ha2
    have HD : Hid (l.drop k = l[k] :: l.drop (k + 1)) := drop_at l k hlt
    have HE : Hid (m.drop k = m[k] :: m.drop (k + 1)) := drop_at m k hlt2
    generalize l[k] = x at *
    generalize m[k] = y at *
    have HS := hid_trans HR (show _ = (x == y && sameB (l.drop (k + 1)) (m.drop (k + 1))) from by rw [HD.out, HE.out]; rfl)
    clear HR HD HE
    have r0 : ∀ yy : ExtW wr, yy.w.cell? ⟨b, o + k, none⟩ = some (.int .i64 x) := ext_cell g0
    have r1 : ∀ yy : ExtW wr, yy.w.cell? ⟨b2, o2 + k, none⟩ = some (.int .i64 y) := ext_cell g2
    have hi0 : (0 : Int) ≤ (k : Int) := Int.natCast_nonneg _
    have hi1 : (k : Int) < (l.length : Int) := by omega
    have hi2 : (k : Int) < (m.length : Int) := by omega
    go_wp2_with fail
    refine region_ext (by kernel_rfl) (by kernel_rfl) ?_
    repeat (go_big_quiet_step (fail))
    refine wpQuiet_nil ?_
    rintro _ ⟨xw, rfl⟩
    have hbx := hbr.trans' xw.h
    clear r0 r1 g0 g2
    by_cases hxy : x = y
    ·have hxb : (x != y) = false := by rw [hxy]; simp
     have HF := hid_trans HS (show _ = sameB (l.drop (k + 1)) (m.drop (k + 1)) from by rw [hxy]; simp)
     clear HS hxy
     go_wp2_with fail
     go_roundw
     case rel => exact ⟨k + 1, by omega, by go_num, HF, hbx⟩
     case measure => simp [intOf]; omega
    ·have hxb : (x != y) = true := by rw [bne_iff_ne]; exact hxy
     have HF := hid_trans HS (show _ = false from by rw [beq_eq_false_iff_ne.2 hxy]; rfl)
     clear HS hxy
     go_wp2_with fail
     go_ret
     exact ⟨ret_bool HF.out.symm, hbx⟩
   ·have HF := hid_trans HR (show _ = true from by rw [drop_all l k (by omega), drop_all m k (by rw [← HL.out]; omega)]; rfl)
    clear HR
    go_wp2_with fail
    go_ret
    exact ⟨ret_bool HF.out.symm, hbr⟩
 ·have hb : ((l.length : Int) != (m.length : Int)) = true := by rw [bne_iff_ne]; omega
  have HF := Lib.hid (sameB_len l m hlen)
  clear hlen
  go_enter Tryd.func31, Tryd.ntmps31
  go_wp2_with fail
  go_ret
  exact ⟨ret_bool HF.out.symm, Ext.refl _⟩
def nfcRes (T : Tbl) (l : List Int) : List Int := if nfdErr T l = 0 then nfcT T l else []
theorem nfd_zero {T : Tbl} {l : List Int} (hz : nfdErr T l = 0) : wfB T = true ∧ (nfdT T l).length ≤ 4096 := by
 unfold nfdErr at hz
 by_cases ho : ordErr T l = 0
 ·rw [if_neg (by rw [ho]; simp)] at hz
  refine ⟨(ord_zero ho).1, ?_⟩
  by_cases h5 : 4096 < ((nfdT T l).length : Int)
  ·rw [if_pos h5] at hz; omega
  ·omega
 ·rw [if_pos ho] at hz; exact absurd hz ho
set_option maxHeartbeats 1600000 in
set_option maxRecDepth 100000 in
theorem nfc_own (T : Tbl) (t : TV) (l : List Int) (A : Option Addr) (n c : Nat) (w : World) (ht : TblS w t T) (hi : IntS w ⟨A, n, c⟩ l) :
  Calls Tryd.prog 30 #[t.v, .slice A n c] w fun e w' => ∃ B m d, e = .returned (.tuple #[.slice B m d, .int .i64 (nfdErr T l)]) ∧ Ext w w' ∧ IntS w' ⟨B, m, d⟩ (nfcRes T l) ∧ ∀ b, blkOf B = some b → w.heap.size ≤ b := by
 have hba := tw_ext w t
 have HT := Lib.hid (ht.ext_ hba)
 have HI := Lib.hid (hi.ext hba)
 clear ht hi
 go_enter Tryd.func30, Tryd.ntmps30
 go_wp2_with fail
 refine (nfd_spec T t l A n c _ HT.out HI.out).mono ?_
 rintro e w1 ⟨B, m, d, rfl, hb1, hi1⟩
 have HB1 := Lib.hid hb1
 have HI1 := Lib.hid hi1
 have rT : ∀ k : Nat, w1.cell? ⟨w.heap.size, k, none⟩ = t.v.cells[k]? := box_at hb1
 clear hb1 hi1
 by_cases hz : nfdErr T l = 0
 ·have hzb : (nfdErr T l == 0) = true := by rw [beq_iff_eq]; exact hz
  have HI2 : Hid (IntS w1 ⟨B, m, d⟩ (nfdT T l)) := Lib.hid (by have := HI1.out; rw [nfdRes, if_pos hz] at this; exact this)
  have HZ := Lib.hid hz
  have HWL := Lib.hid (nfd_zero hz)
  clear hz HI1
  go_wp2_with fail
  refine (cform_own T HWL.out.1 t (nfdT T l) B m d _ (HT.out.ext_ HB1.out) HI2.out (by have := HWL.out.2; omega)).mono ?_
  rintro e w2 ⟨B2, m2, d2, rfl, hi2, hb2, hf2⟩
  have HI3 := Lib.hid hi2
  have hb := (hba.trans' HB1.out).trans' hb2
  have HF2 : Hid (∀ b, blkOf B2 = some b → w.heap.size ≤ b) := Lib.hid (fun b h => Nat.le_trans (hba.trans' HB1.out).b.size (hf2 b h))
  clear hi2 hb2 hf2
  go_wp2_with fail
  go_ret2
  exact ⟨B2, m2, d2, by rw [HZ.out]; rfl, hb, by rw [nfcRes, HZ.out, if_pos rfl]; exact HI3.out, HF2.out⟩
 ·have hzb : (nfdErr T l == 0) = false := by rw [beq_eq_false_iff_ne]; exact hz
  have HZ := Lib.hid hz
  have hb := hba.trans' HB1.out
  clear hz
  go_wp2_with fail
  go_ret2
  exact ⟨none, 0, 0, rfl, hb, by rw [nfcRes, if_neg HZ.out]; exact IntS.nil_ _, fun b h => by cases h⟩
theorem nfc_spec (T : Tbl) (t : TV) (l : List Int) (A : Option Addr) (n c : Nat) (w : World) (ht : TblS w t T) (hi : IntS w ⟨A, n, c⟩ l) :
  Calls Tryd.prog 30 #[t.v, .slice A n c] w fun e w' => ∃ B m d, e = .returned (.tuple #[.slice B m d, .int .i64 (nfdErr T l)]) ∧ Ext w w' ∧ IntS w' ⟨B, m, d⟩ (nfcRes T l) :=
 (nfc_own T t l A n c w ht hi).mono fun _ _ ⟨B, m, d, h1, h2, h3, _⟩ => ⟨B, m, d, h1, h2, h3⟩
def isNfc (T : Tbl) (l : List Int) : Bool := (nfdErr T l == 0) && sameB (nfcRes T l) l
set_option maxHeartbeats 1600000 in
set_option maxRecDepth 100000 in
theorem isnfc_spec (T : Tbl) (t : TV) (l : List Int) (A : Option Addr) (n c : Nat) (w : World) (ht : TblS w t T) (hi : IntS w ⟨A, n, c⟩ l) :
  Calls Tryd.prog 21 #[t.v, .slice A n c] w fun e w' => e = .returned (.bool (isNfc T l)) ∧ Ext w w' := by
 have hba := tw_ext w t
 have HT := Lib.hid (ht.ext_ hba)
 have HI := Lib.hid (hi.ext hba)
 clear ht hi
 go_enter Tryd.func21, Tryd.ntmps21
 go_wp2_with fail
 refine (nfc_spec T t l A n c _ HT.out HI.out).mono ?_
 rintro e w1 ⟨B, m, d, rfl, hb1, hi1⟩
 have HB1 := Lib.hid hb1
 have HI1 := Lib.hid hi1
 clear hb1 hi1
 cases hz : (nfdErr T l == 0)
 ·have HZ : Hid (isNfc T l = false) := Lib.hid (by rw [isNfc, hz]; rfl)
  have hb := hba.trans' HB1.out
  go_wp2_with fail
  go_ret
  exact ⟨ret_bool HZ.out.symm, hb⟩
 ·have HZ : Hid (isNfc T l = sameB (nfcRes T l) l) := Lib.hid (by rw [isNfc, hz]; rfl)
  go_wp2_with (go_at_call 31; refine (equal_spec (nfcRes T l) l B m d A n c _ HI1.out (HI.out.ext HB1.out)).mono ?_; rintro e w2 ⟨rfl, hb2⟩)
  have hb := (hba.trans' HB1.out).trans' hb2
  go_ret
  exact ⟨ret_bool HZ.out.symm, hb⟩
end Go.Proofs.YtbdabjhankgcmaaDoor
namespace Go.Proofs.YtbdabjhankgcmaaDoor
open Go.RowKit
end Go.Proofs.YtbdabjhankgcmaaDoor
namespace Go.Proofs.YtbdabjhankgcmaaDoor
open Go.RowKit
end Go.Proofs.YtbdabjhankgcmaaDoor
namespace Go.Proofs.YtbdabjhankgcmaaDoor
open Go.RowKit
end Go.Proofs.YtbdabjhankgcmaaDoor
