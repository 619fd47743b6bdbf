/- Walks of the reference: NFC, IsNFC. Written by ue_gen.py. -/
import Derived.Test.YtbdabjhankgcmaaGreatDoorGu
import Derived.Test.YtbdabjhankgcmaaGreatDoorCf
import Derived.Test.YtbdabjhankgcmaaGreatDoorGx
namespace Go.Proofs.YtbdabjhankgcmaaGreatDoor
open Go.RowKit
def RcLoop (T : Tbl) (w1 : World) (D V : List Int) (gh : Nat) (s8 s26 : Value) (wx : World) : Prop :=
 ∃ (k : Nat) (A : Option Addr) (n c : Nat) (pre tail : List Int) (st : Option Int), k + gh = D.length ∧ s26 = .int .i64 k ∧ s8 = .slice A n c ∧ Hid (OwnI wx w1.heap.size A n c (pre ++ st.toList ++ tail)) ∧ Hid (Ext w1 wx) ∧ Hid (V = frmGo T pre st tail (D.drop k)) ∧ Hid (st = none → pre = []) ∧ Hid (n ≤ k) ∧ Hid (∀ z ∈ tail, clsT T z ≠ 0) ∧ Hid (∀ z, st = some z → clsT T z = 0)
def ScIn (w1 : World) (A : Option Addr) (n c : Nat) (L : List Int) (b0 : Int) (q gh : Nat) (s11 : Value) (wx : World) : Prop :=
 gh ≤ q ∧ ((gh = 0 ∧ s11 = .int .i64 b0) ∨ (∃ r j : Nat, gh = r + 1 ∧ s11 = .int .i64 j ∧ Hid ((j : Int) = b0 + 1 + r))) ∧ Hid (OwnI wx w1.heap.size A n c L) ∧ Hid (Ext w1 wx)
set_option maxHeartbeats 12800000 in
set_option maxRecDepth 100000 in
theorem rnfc_spec (T : Tbl) (t : TV) (l : List Int) (A : Option Addr) (n c : Nat) (w : World) (ht : TblS w t T) (hi : IntS w ⟨A, n, c⟩ l) :
  Calls Tryz.prog 34 #[t.v, .slice A n c] w fun e w' => ∃ B m d, e = .returned (.tuple #[.slice B m d, .int .i64 (nfdErr T l)]) ∧ Ext w w' ∧ IntS w' ⟨B, m, d⟩ (nfcRes T l) := by
 have hba := tw_ext w t
 have HBA := Lib.hid hba
 have HT := Lib.hid (ht.ext_ hba)
 have HI := Lib.hid (hi.ext hba)
 clear ht hi hba
 go_enter Tryz.func34, Tryz.ntmps34
 go_wp2_with fail
 refine (rnfd_spec T t l A n c _ HT.out HI.out).mono ?_
 rintro e w1 ⟨B, m, d, rfl, hb1, hi1⟩
 have HB1 := Lib.hid hb1
 have hzw : w.heap.size < w1.heap.size := by have h' := hb1.b.size; simp at h'; omega
 have hm := hi1.len.1
 subst hm
 clear hb1
 by_cases hz : nfdErr T l = 0
 case neg =>
  have hzb : (nfdErr T l != 0) = true := by rw [bne_iff_ne]; exact hz
  have HZ := Lib.hid hz
  have hb := HBA.out.trans' HB1.out
  clear hz hi1
  go_wp2_with fail
  go_ret2
  exact ⟨none, 0, 0, rfl, hb, by rw [nfcRes, if_neg HZ.out]; exact IntS.nil_ _⟩
 rw [nfdRes, if_pos hz] at hi1
 have HW := Lib.hid (nfd_zero hz).1
 have HC := Lib.hid (wfc_of (nfd_zero hz).1)
 have HLF := Lib.hid (nfd_leaves HC.out l)
 have HDL := Lib.hid (nfd_zero hz).2
 have HE : Hid (nfdErr T l = 0) := Lib.hid hz
 have HRS : Hid (nfcRes T l = frmGo T [] none [] ((nfdT T l).drop 0)) := Lib.hid (by rw [nfcRes, if_pos hz]; rfl)
 have HS := Lib.hid (wf_srt HW.out)
 rw [nfdRes, if_pos hz, hz]
 obtain ⟨V, hV⟩ : ∃ V, nfcRes T l = V := ⟨_, rfl⟩
 rw [hV] at HRS
 have HVE := Lib.hid hV
 clear hV
 generalize nfdT T l = D at *
 have HID := Lib.hid hi1
 clear hi1 hz
 go_wp2_with fail
 go_loopg [8, 26] D.length (fun gh s8 s26 wx => RcLoop T w1 D V gh s8 s26 wx)
 case atStart => exact ⟨0, none, 0, 0, [], [], none, by omega, rfl, rfl, Lib.hid (Own.nil_ _ _ _ _), Lib.hid (Ext.refl _), HRS, Lib.hid (fun _ => rfl), Lib.hid (Nat.le_refl _), Lib.hid (fun z hz => by cases hz), Lib.hid (fun z hz => by cases hz)⟩
 case round =>
  obtain ⟨k, A2, n2, c2, pre, tail, st, hkg, rfl, rfl, HO, HB, HR, HST, HNK, HTC, HSC⟩ := hrel
  clear HRS
  by_cases hlt : k < D.length
  case neg =>
   have HF : Hid (V = pre ++ st.toList ++ tail) := Lib.hid (by rw [HR.out, drop_all D k (by omega), frm_e])
   have HI2 : Hid (IntS wr ⟨A2, n2, c2⟩ V) := Lib.hid (by rw [HF.out]; exact OwnI.ints HO.out)
   have hx := (HBA.out.trans' HB1.out).trans' HB.out
   clear HR
   go_wp2_with fail
   go_ret2
   exact ⟨_, _, _, by rw [HE.out]; rfl, hx, by rw [HVE.out]; exact HI2.out⟩
  obtain ⟨gk', rfl⟩ : ∃ g', gk = g' + 1 := ⟨gk - 1, by omega⟩
  have HIR := Lib.hid (HID.out.ext HB.out)
  obtain ⟨b, o, hA, hcx⟩ := HIR.out.at_ hlt
  subst hA
  have HD : Hid (D.drop k = D[k] :: D.drop (k + 1)) := drop_at D k hlt
  have HLX := Lib.hid (HLF.out _ (List.getElem_mem hlt))
  generalize D[k] = x at *
  have hk0 : (0 : Int) ≤ (k : Int) := Int.natCast_nonneg _
  have hk1 : (k : Int) < (D.length : Int) := by omega
  have hd9 : D.length ≤ 4096 := HDL.out
  have HRX : Hid (V = frmGo T pre st tail (x :: D.drop (k + 1))) := Lib.hid (by rw [HR.out, HD.out])
  have HBX : Hid (∀ (w' : World), Ext w1 w' → ∀ k : Nat, w'.cell? ⟨w.heap.size, k, none⟩ = t.v.cells[k]?) := Lib.hid fun w' hw' => box_at (HB1.out.trans' hw')
  have HCL : Hid (∀ (c : Int) (w' : World), Ext w1 w' → Calls Tryz.prog 68 #[t.v, .int .i64 c] w' fun e w'' => e = .returned (.int .i64 (clsT T c)) ∧ Ext w' w'') := Lib.hid (fun c w' h => rclass_spec t T c w' (HT.out.ext_ (HB1.out.trans' h)))
  clear HR HD HIR
  cases st with
  | none =>
   have hpz : pre = [] := HST.out rfl
   subst hpz
   have HO' : Hid (OwnI wr w1.heap.size A2 n2 c2 tail) := Lib.hid (by simpa using HO.out)
   have HN : Hid (n2 = tail.length) := Lib.hid (by have := HO'.out.len; simp at this; omega)
   have HNX : Hid (V = if clsT T x = 0 then frmGo T ([] ++ tail) (some x) [] (D.drop (k + 1)) else frmGo T [] none (tail ++ [x]) (D.drop (k + 1))) := Lib.hid (HRX.out.trans (frm_n [] tail x _))
   clear HO HRX
   have hn0 : (0 : Int) ≤ (n2 : Int) := Int.natCast_nonneg _
   have hn9 : (n2 : Int) ≤ 4096 := by have := HNK.out; have := HDL.out; omega
   go_wp2_with fail
   go_loopg [11] tail.length (fun gh s11 wx => ScIn w1 A2 n2 c2 tail (-1) tail.length gh s11 wx)
   case atStart =>
    refine ⟨Nat.le_refl _, ?_, HO', HB⟩
    rcases Nat.eq_zero_or_pos tail.length with h0 | h0
    ·exact .inl ⟨h0, by have := HN.out; rw [h0] at this; subst this; first | rfl | go_num⟩
    ·exact .inr ⟨tail.length - 1, n2 - 1, by omega, by have := HN.out; first | (congr 1; omega) | go_num, Lib.hid (by have := HN.out; omega)⟩
   case round =>
    obtain ⟨hgq, hs, HOI, HBI⟩ := hrel
    rcases hs with ⟨rfl, rfl⟩ | ⟨r, j, rfl, rfl, HJ⟩
    ·
     have hd : decide ((0 : Int) ≤ -1) = false := rfl
     have hd2 : decide ((-1 : Int) < 0) = true := rfl
     have rT : ∀ yy : ExtW wr, ∀ k : Nat, yy.w.cell? ⟨w.heap.size, k, none⟩ = t.v.cells[k]? := fun yy => HBX.out _ (HBI.out.trans' yy.h)
     go_wp2_with fail
     refine region_ext (by kernel_rfl) (by kernel_rfl) ?_
     repeat (go_big_quiet_step (first | (fail)))
     refine wpQuiet_nil ?_
     rintro _ ⟨yw, rfl⟩
     clear rT
     obtain ⟨wo, hwo⟩ : ∃ wo : World, wo = yw.w := ⟨_, rfl⟩
     have HOY : Hid (OwnI wo w1.heap.size _ _ c2 _) := Lib.hid (by rw [hwo]; exact Own.ext HOI.out yw.h)
     have HBY : Hid (Ext w1 wo) := Lib.hid (by rw [hwo]; exact HBI.out.trans' yw.h)
     rw [← hwo]
     clear hwo HOI HBI
     have HOI := HOY
     have HBI := HBY
     clear HOY HBY
     have rT : ∀ yy : ExtW wo, ∀ k : Nat, yy.w.cell? ⟨w.heap.size, k, none⟩ = t.v.cells[k]? := fun yy => HBX.out _ (HBI.out.trans' yy.h)
     go_wp2_with fail
     refine region_ext (by kernel_rfl) (by kernel_rfl) ?_
     repeat (go_big_quiet_step (first | (fail)))
     refine wpQuiet_nil ?_
     rintro _ ⟨yw, rfl⟩
     clear rT
     obtain ⟨wq, hwq⟩ : ∃ wq : World, wq = yw.w := ⟨_, rfl⟩
     have HOY : Hid (OwnI wq w1.heap.size _ _ c2 _) := Lib.hid (by rw [hwq]; exact Own.ext HOI.out yw.h)
     have HBY : Hid (Ext w1 wq) := Lib.hid (by rw [hwq]; exact HBI.out.trans' yw.h)
     rw [← hwq]
     clear hwq HOI HBI
     by_cases hk : clsT T x = 0
     ·
      have HF : Hid (V = frmGo T ([] ++ tail) (some x) ([]) (D.drop (k + 1))) := Lib.hid (HNX.out.trans (if_pos hk))
      have HKX : Hid (clsT T x = 0) := Lib.hid hk
      clear hk HNX
      have hx4 : Ext wq (wq.alloc (.cells #[.int .i64 x] 3)) := (Ext.refl _).alloc_ _
      have hn0 := HNK.out
      obtain ⟨A5, c5, w5, hrun, hown5, hgr5, _⟩ := append_ints (Own.ext HOY.out hx4) (one_int wq x) (by omega) (by have h' := HBY.out.b.size; simp; omega)
      have HO5 := Lib.hid hown5
      have HB5 : Hid (Ext w1 w5) := Lib.hid (ext_of_grown (HBY.out.trans' hx4) hgr5 (fun k hk => (Own.lt HOY.out k hk).1))
      clear hown5 hgr5 hx4 hn0
      go_wp2_with (at_builtin; refine wpList_run_append rfl _ _ _ rfl _ _ rfl rfl _ _ hrun ?_)
      go_roundg gk'
      case measure => omega
      case rel => exact ⟨k + 1, A5, n2 + 1, c5, [] ++ tail, [], some x, by omega, by go_num, rfl, Lib.hid (by simpa using HO5.out), HB5, HF, Lib.hid (by intro h; cases h), Lib.hid (by have := HNK.out; omega), Lib.hid (fun z hz => by cases hz), Lib.hid (fun z hz => by injection hz with hz; subst hz; exact HKX.out)⟩
     ·
      have HF : Hid (V = frmGo T ([]) (none) (tail ++ [x]) (D.drop (k + 1))) := Lib.hid (HNX.out.trans (if_neg hk))
      have HKX : Hid (clsT T x ≠ 0) := Lib.hid hk
      clear hk HNX
      have hx4 : Ext wq (wq.alloc (.cells #[.int .i64 x] 3)) := (Ext.refl _).alloc_ _
      have hn0 := HNK.out
      obtain ⟨A5, c5, w5, hrun, hown5, hgr5, _⟩ := append_ints (Own.ext HOY.out hx4) (one_int wq x) (by omega) (by have h' := HBY.out.b.size; simp; omega)
      have HO5 := Lib.hid hown5
      have HB5 : Hid (Ext w1 w5) := Lib.hid (ext_of_grown (HBY.out.trans' hx4) hgr5 (fun k hk => (Own.lt HOY.out k hk).1))
      clear hown5 hgr5 hx4 hn0
      go_wp2_with (at_builtin; refine wpList_run_append rfl _ _ _ rfl _ _ rfl rfl _ _ hrun ?_)
      go_roundg gk'
      case measure => omega
      case rel => exact ⟨k + 1, A5, n2 + 1, c5, [], tail ++ [x], none, by omega, by go_num, rfl, Lib.hid (by simpa using HO5.out), HB5, HF, Lib.hid (fun _ => rfl), Lib.hid (by have := HNK.out; omega), Lib.hid (fun z hz => by rcases List.mem_append.1 hz with hz | hz; exact HTC.out z hz; rw [List.mem_singleton] at hz; subst hz; exact HKX.out), HSC⟩
    ·
     have hr : r < tail.length := by omega
     have HY : Hid ((tail)[j]? = some tail[r]) := Lib.hid (by
      have hj := HJ.out
      rw [show j = r from by omega, List.getElem?_eq_getElem hr])
     have HYC := Lib.hid (HTC.out _ (List.getElem_mem hr))
     generalize tail[r] = y at *
     have hj0 : (0 : Int) ≤ (j : Int) := Int.natCast_nonneg _
     have hj1 : (j : Int) < (n2 : Int) := by have := HJ.out; have := HN.out; omega
     have hd : decide ((0 : Int) ≤ (j : Int)) = true := decide_eq_true hj0
     have e1 : (clsT T y != 0) = true := by rw [bne_iff_ne]; exact HYC.out
     obtain ⟨g, rfl⟩ := Own.some_ HOI.out (by omega)
     have rT : ∀ yy : ExtW wr, ∀ k : Nat, yy.w.cell? ⟨w.heap.size, k, none⟩ = t.v.cells[k]? := fun yy => HBX.out _ (HBI.out.trans' yy.h)
     have rX0 : ∀ yy : ExtW wr, yy.w.cell? ⟨g, j, none⟩ = some (.int .i64 y) := ext_cell (OwnI.cell HOI.out (j) y HY.out)
     go_wp2_with fail
     refine region_ext (by kernel_rfl) (by kernel_rfl) ?_
     repeat (go_big_quiet_step (first | (go_at_call 68; with_reducible exact quiet_ext (HCL.out y _ (HBI.out.trans' (ExtW.h _))))))
     refine wpQuiet_nil ?_
     rintro _ ⟨yw, rfl⟩
     clear rT rX0
     obtain ⟨wo, hwo⟩ : ∃ wo : World, wo = yw.w := ⟨_, rfl⟩
     have HOY : Hid (OwnI wo w1.heap.size _ _ c2 _) := Lib.hid (by rw [hwo]; exact Own.ext HOI.out yw.h)
     have HBY : Hid (Ext w1 wo) := Lib.hid (by rw [hwo]; exact HBI.out.trans' yw.h)
     rw [← hwo]
     clear hwo HOI HBI
     go_wp2_with fail
     go_roundg r
     case measure => omega
     case rel =>
      refine ⟨by omega, ?_, HOY, HBY⟩
      rcases Nat.eq_zero_or_pos r with h0 | h0
      ·exact .inl ⟨h0, by have := HJ.out; first | (congr 1; omega) | go_num⟩
      ·exact .inr ⟨r - 1, j - 1, by omega, by have := HJ.out; first | (congr 1; omega) | go_num, Lib.hid (by have := HJ.out; omega)⟩
  | some s =>
   obtain ⟨m, rfl⟩ : ∃ m, n2 = m + 1 := ⟨n2 - 1, by have := HO.out.len; simp at this; omega⟩
   have HO' : Hid (OwnI wr w1.heap.size A2 (m + 1) c2 (pre ++ s :: tail)) := Lib.hid (by simpa using HO.out)
   have HN : Hid (m + 1 = pre.length + 1 + tail.length) := Lib.hid (by have := HO'.out.len; simp at this; omega)
   have hs0 := HSC.out s rfl
   have HS0 := Lib.hid hs0
   clear HO hs0
   have hsub : ((m + 1 : Nat) : Int) - 1 = (m : Int) := by omega
   have hp0 : (0 : Int) ≤ (pre.length : Int) := Int.natCast_nonneg _
   have hm0 : (0 : Int) ≤ (m : Int) := Int.natCast_nonneg _
   have hm1 : (m : Int) < ((m + 1 : Nat) : Int) := by omega
   have hm9 : m + 1 ≤ 4096 := by have := HNK.out; omega
   have hpm1 : (pre.length : Int) < ((m + 1 : Nat) : Int) := by have := HN.out; omega
   go_wp2_with fail
   go_loopg [11] tail.length (fun gh s11 wx => ScIn w1 A2 (m + 1) c2 (pre ++ s :: tail) (pre.length : Int) tail.length gh s11 wx)
   case atStart =>
    refine ⟨Nat.le_refl _, ?_, HO', HB⟩
    rcases Nat.eq_zero_or_pos tail.length with h0 | h0
    ·exact .inl ⟨h0, by have := HN.out; first | (congr 1; omega) | go_num⟩
    ·exact .inr ⟨tail.length - 1, m, by omega, by first | rfl | go_num, Lib.hid (by have := HN.out; omega)⟩
   case round =>
    obtain ⟨hgq, hs, HOI, HBI⟩ := hrel
    obtain ⟨g, rfl⟩ := Own.some_ HOI.out (by omega)
    rcases hs with ⟨rfl, rfl⟩ | ⟨r, j, rfl, rfl, HJ⟩
    ·
     have hd : decide ((0 : Int) ≤ (pre.length : Int)) = true := decide_eq_true hp0
     have hd0 : decide ((pre.length : Int) < 0) = false := by rw [decide_eq_false_iff_not]; omega
     have e0 : (clsT T s != 0) = false := by rw [HS0.out]; rfl
     have rT : ∀ yy : ExtW wr, ∀ k : Nat, yy.w.cell? ⟨w.heap.size, k, none⟩ = t.v.cells[k]? := fun yy => HBX.out _ (HBI.out.trans' yy.h)
     have rX0 : ∀ yy : ExtW wr, yy.w.cell? ⟨g, pre.length, none⟩ = some (.int .i64 s) := ext_cell (OwnI.cell HOI.out (pre.length) s (by simp))
     go_wp2_with fail
     refine region_ext (by kernel_rfl) (by kernel_rfl) ?_
     repeat (go_big_quiet_step (first | (go_at_call 68; with_reducible exact quiet_ext (HCL.out s _ (HBI.out.trans' (ExtW.h _))))))
     refine wpQuiet_nil ?_
     rintro _ ⟨yw, rfl⟩
     clear rT rX0
     obtain ⟨wo, hwo⟩ : ∃ wo : World, wo = yw.w := ⟨_, rfl⟩
     have HOY : Hid (OwnI wo w1.heap.size _ _ c2 _) := Lib.hid (by rw [hwo]; exact Own.ext HOI.out yw.h)
     have HBY : Hid (Ext w1 wo) := Lib.hid (by rw [hwo]; exact HBI.out.trans' yw.h)
     rw [← hwo]
     clear hwo HOI HBI
     rcases List.eq_nil_or_concat tail with htl | ⟨tl, y, htl⟩
     ·
      subst htl
      have hml : m = pre.length := by have := HN.out; simp at this; omega
      have hd1 : decide ((pre.length : Int) < (m : Int)) = false := by rw [decide_eq_false_iff_not]; omega
      have hd3 : decide (pre.length < m) = false := by rw [decide_eq_false_iff_not]; omega
      have HML := Lib.hid hml
      clear hml
      have HOI := HOY
      have HBI := HBY
      clear HOY HBY
      have rT : ∀ yy : ExtW wo, ∀ k : Nat, yy.w.cell? ⟨w.heap.size, k, none⟩ = t.v.cells[k]? := fun yy => HBX.out _ (HBI.out.trans' yy.h)
      go_wp2_with fail
      refine region_ext (by kernel_rfl) (by kernel_rfl) ?_
      repeat (go_big_quiet_step (first | (fail)))
      refine wpQuiet_nil ?_
      rintro _ ⟨yw, rfl⟩
      clear rT
      obtain ⟨wq, hwq⟩ : ∃ wq : World, wq = yw.w := ⟨_, rfl⟩
      have HOY : Hid (OwnI wq w1.heap.size _ _ c2 _) := Lib.hid (by rw [hwq]; exact Own.ext HOI.out yw.h)
      have HBY : Hid (Ext w1 wq) := Lib.hid (by rw [hwq]; exact HBI.out.trans' yw.h)
      rw [← hwq]
      clear hwq HOI HBI
      cases hpt : pairT T s x with
      | some y2 =>
       have HF : Hid (V = frmGo T pre (some y2) ([]) (D.drop (k + 1))) := Lib.hid (by rw [HRX.out, frmGo, show blkB T [] x = false from rfl, if_neg (by simp), hpt])
       have HP : Hid (pairV T s x = (y2, true)) := Lib.hid (by rw [pairV, hpt])
       have HY2 := Lib.hid (pair_exp HC.out HLX.out hpt).2.1
       clear hpt HRX
       have HOI := HOY
       have HBI := HBY
       clear HOY HBY
       have HPC : Hid (∀ (w' : World), Ext w1 w' → Calls Tryz.prog 72 #[t.v, .int .i64 s, .int .i64 x] w' fun e w'' => e = .returned (.tuple #[.int .i64 y2, .bool true]) ∧ Ext w' w'') := Lib.hid (fun w' h => by
        have h' := rpair_spec T HW.out t s x w' (HT.out.ext_ (HB1.out.trans' h))
        rw [HP.out] at h'
        exact h')
       have rT : ∀ yy : ExtW wq, ∀ k : Nat, yy.w.cell? ⟨w.heap.size, k, none⟩ = t.v.cells[k]? := fun yy => HBX.out _ (HBI.out.trans' yy.h)
       have rX0 : ∀ yy : ExtW wq, yy.w.cell? ⟨g, pre.length, none⟩ = some (.int .i64 s) := ext_cell (OwnI.cell HOI.out (pre.length) s (by simp))
       go_wp2_with fail
       refine region_ext (by kernel_rfl) (by kernel_rfl) ?_
       repeat (go_big_quiet_step (first | (go_at_call 72; with_reducible exact quiet_ext (HPC.out _ (HBI.out.trans' (ExtW.h _))))))
       refine wpQuiet_nil ?_
       rintro _ ⟨yw, rfl⟩
       clear rT rX0
       obtain ⟨wp, hwp⟩ : ∃ wp : World, wp = yw.w := ⟨_, rfl⟩
       have HOY : Hid (OwnI wp w1.heap.size _ _ c2 _) := Lib.hid (by rw [hwp]; exact Own.ext HOI.out yw.h)
       have HBY : Hid (Ext w1 wp) := Lib.hid (by rw [hwp]; exact HBI.out.trans' yw.h)
       rw [← hwp]
       clear hwp HOI HBI
       have r0 : wp.cell? ⟨g, pre.length, none⟩ = some (.int .i64 s) := HOY.out.cell pre.length s (by simp)
       have f0 : wp.frozen? ⟨g, pre.length, none⟩ = false := HOY.out.frozen pre.length
       have HO5 := Lib.hid (HOY.out.set pre.length y2)
       have hgb : w1.heap.size ≤ g := (Own.lt HOY.out g rfl).1
       have HB5 := Lib.hid (HBY.out.setCell_ (p := ⟨g, pre.length, none⟩) hgb (.int .i64 y2))
       generalize hpl : pre.length = p at *
       go_wp2_with fail
       go_roundg gk'
       case measure => omega
       case rel => exact ⟨k + 1, some ⟨g, 0, none⟩, m + 1, c2, pre, [], some y2, by omega, by go_num, rfl, Lib.hid (by have h5 := HO5.out; rw [← hpl] at h5 ⊢; simpa [List.set_append] using h5), HB5, HF, Lib.hid (by intro h; cases h), Lib.hid (by have := HNK.out; omega), HTC, Lib.hid (fun z hz => by injection hz with hz; subst hz; exact HY2.out)⟩
      | none =>
       have HNX : Hid (V = if clsT T x = 0 then frmGo T (pre ++ s :: ([])) (some x) [] (D.drop (k + 1)) else frmGo T pre (some s) ([] ++ [x]) (D.drop (k + 1))) := Lib.hid (by rw [HRX.out, frmGo, show blkB T [] x = false from rfl, if_neg (by simp), hpt])
       have HP : Hid (pairV T s x = (0, false)) := Lib.hid (by rw [pairV, hpt])
       clear hpt HRX
       have HOI := HOY
       have HBI := HBY
       clear HOY HBY
       have HPC : Hid (∀ (w' : World), Ext w1 w' → Calls Tryz.prog 72 #[t.v, .int .i64 s, .int .i64 x] w' fun e w'' => e = .returned (.tuple #[.int .i64 0, .bool false]) ∧ Ext w' w'') := Lib.hid (fun w' h => by
        have h' := rpair_spec T HW.out t s x w' (HT.out.ext_ (HB1.out.trans' h))
        rw [HP.out] at h'
        exact h')
       have rT : ∀ yy : ExtW wq, ∀ k : Nat, yy.w.cell? ⟨w.heap.size, k, none⟩ = t.v.cells[k]? := fun yy => HBX.out _ (HBI.out.trans' yy.h)
       have rX0 : ∀ yy : ExtW wq, yy.w.cell? ⟨g, pre.length, none⟩ = some (.int .i64 s) := ext_cell (OwnI.cell HOI.out (pre.length) s (by simp))
       go_wp2_with fail
       refine region_ext (by kernel_rfl) (by kernel_rfl) ?_
       repeat (go_big_quiet_step (first | (go_at_call 72; with_reducible exact quiet_ext (HPC.out _ (HBI.out.trans' (ExtW.h _))))))
       refine wpQuiet_nil ?_
       rintro _ ⟨yw, rfl⟩
       clear rT rX0
       obtain ⟨wp, hwp⟩ : ∃ wp : World, wp = yw.w := ⟨_, rfl⟩
       have HOY : Hid (OwnI wp w1.heap.size _ _ c2 _) := Lib.hid (by rw [hwp]; exact Own.ext HOI.out yw.h)
       have HBY : Hid (Ext w1 wp) := Lib.hid (by rw [hwp]; exact HBI.out.trans' yw.h)
       rw [← hwp]
       clear hwp HOI HBI
       by_cases hk : clsT T x = 0
       ·
        have HF : Hid (V = frmGo T (pre ++ s :: []) (some x) ([]) (D.drop (k + 1))) := Lib.hid (HNX.out.trans (if_pos hk))
        have HKX : Hid (clsT T x = 0) := Lib.hid hk
        clear hk HNX
        have hx4 : Ext wp (wp.alloc (.cells #[.int .i64 x] 3)) := (Ext.refl _).alloc_ _
        have hn0 := HNK.out
        obtain ⟨A5, c5, w5, hrun, hown5, hgr5, _⟩ := append_ints (Own.ext HOY.out hx4) (one_int wp x) (by omega) (by have h' := HBY.out.b.size; simp; omega)
        have HO5 := Lib.hid hown5
        have HB5 : Hid (Ext w1 w5) := Lib.hid (ext_of_grown (HBY.out.trans' hx4) hgr5 (fun k hk => (Own.lt HOY.out k hk).1))
        clear hown5 hgr5 hx4 hn0
        go_wp2_with (at_builtin; refine wpList_run_append rfl _ _ _ rfl _ _ rfl rfl _ _ hrun ?_)
        go_roundg gk'
        case measure => omega
        case rel => exact ⟨k + 1, A5, (m + 1) + 1, c5, pre ++ s :: [], [], some x, by omega, by go_num, rfl, Lib.hid (by simpa using HO5.out), HB5, HF, Lib.hid (by intro h; cases h), Lib.hid (by have := HNK.out; omega), Lib.hid (fun z hz => by cases hz), Lib.hid (fun z hz => by injection hz with hz; subst hz; exact HKX.out)⟩
       ·
        have HF : Hid (V = frmGo T (pre) (some s) ([] ++ [x]) (D.drop (k + 1))) := Lib.hid (HNX.out.trans (if_neg hk))
        have HKX : Hid (clsT T x ≠ 0) := Lib.hid hk
        clear hk HNX
        have hx4 : Ext wp (wp.alloc (.cells #[.int .i64 x] 3)) := (Ext.refl _).alloc_ _
        have hn0 := HNK.out
        obtain ⟨A5, c5, w5, hrun, hown5, hgr5, _⟩ := append_ints (Own.ext HOY.out hx4) (one_int wp x) (by omega) (by have h' := HBY.out.b.size; simp; omega)
        have HO5 := Lib.hid hown5
        have HB5 : Hid (Ext w1 w5) := Lib.hid (ext_of_grown (HBY.out.trans' hx4) hgr5 (fun k hk => (Own.lt HOY.out k hk).1))
        clear hown5 hgr5 hx4 hn0
        go_wp2_with (at_builtin; refine wpList_run_append rfl _ _ _ rfl _ _ rfl rfl _ _ hrun ?_)
        go_roundg gk'
        case measure => omega
        case rel => exact ⟨k + 1, A5, (m + 1) + 1, c5, pre, [] ++ [x], some s, by omega, by go_num, rfl, Lib.hid (by simpa using HO5.out), HB5, HF, Lib.hid (by intro h; cases h), Lib.hid (by have := HNK.out; omega), Lib.hid (fun z hz => by rcases List.mem_append.1 hz with hz | hz; exact HTC.out z hz; rw [List.mem_singleton] at hz; subst hz; exact HKX.out), HSC⟩
     ·
      rw [List.concat_eq_append] at htl
      subst htl
      have hml : m = (pre ++ s :: tl).length := by have := HN.out; simp at this ⊢; omega
      have hmp : pre.length < m := by rw [hml]; simp
      have hd1 : decide ((pre.length : Int) < (m : Int)) = true := by rw [decide_eq_true_eq]; omega
      have hd3 : decide (pre.length < m) = true := by rw [decide_eq_true_eq]; omega
      have HXY : Hid ((pre ++ s :: (tl ++ [y]))[m]? = some y) := Lib.hid (by
       have e : pre ++ s :: (tl ++ [y]) = (pre ++ s :: tl) ++ [y] := by simp
       rw [e, hml, List.getElem?_concat_length])
      have HML := Lib.hid hml
      have hy0 := HTC.out y (by simp)
      have HBL : Hid (blkB T (tl ++ [y]) x = decide (clsT T x ≤ clsT T y)) := Lib.hid (by rw [blkB_last, decide_eq_false hy0, Bool.false_or])
      clear hml hmp hy0
      by_cases h2 : clsT T x ≤ clsT T y
      ·
       have e2 : decide (clsT T x ≤ clsT T y) = true := decide_eq_true h2
       have HNX : Hid (V = if clsT T x = 0 then frmGo T (pre ++ s :: (tl ++ [y])) (some x) [] (D.drop (k + 1)) else frmGo T pre (some s) (tl ++ [y] ++ [x]) (D.drop (k + 1))) := Lib.hid (by rw [HRX.out, frmGo, HBL.out, e2, if_pos rfl])
       clear HRX h2
       have HOI := HOY
       have HBI := HBY
       clear HOY HBY
       have rT : ∀ yy : ExtW wo, ∀ k : Nat, yy.w.cell? ⟨w.heap.size, k, none⟩ = t.v.cells[k]? := fun yy => HBX.out _ (HBI.out.trans' yy.h)
       have rX0 : ∀ yy : ExtW wo, yy.w.cell? ⟨g, m, none⟩ = some (.int .i64 y) := ext_cell (OwnI.cell HOI.out (m) y HXY.out)
       go_wp2_with fail
       refine region_ext (by kernel_rfl) (by kernel_rfl) ?_
       repeat (go_big_quiet_step (first | (go_at_call 68; with_reducible exact quiet_ext (HCL.out y _ (HBI.out.trans' (ExtW.h _)))) | (go_at_call 68; with_reducible exact quiet_ext (HCL.out x _ (HBI.out.trans' (ExtW.h _))))))
       refine wpQuiet_nil ?_
       rintro _ ⟨yw, rfl⟩
       clear rT rX0
       obtain ⟨wq, hwq⟩ : ∃ wq : World, wq = yw.w := ⟨_, rfl⟩
       have HOY : Hid (OwnI wq w1.heap.size _ _ c2 _) := Lib.hid (by rw [hwq]; exact Own.ext HOI.out yw.h)
       have HBY : Hid (Ext w1 wq) := Lib.hid (by rw [hwq]; exact HBI.out.trans' yw.h)
       rw [← hwq]
       clear hwq HOI HBI
       by_cases hk : clsT T x = 0
       ·
        have HF : Hid (V = frmGo T (pre ++ s :: (tl ++ [y])) (some x) ([]) (D.drop (k + 1))) := Lib.hid (HNX.out.trans (if_pos hk))
        have HKX : Hid (clsT T x = 0) := Lib.hid hk
        clear hk HNX
        have hx4 : Ext wq (wq.alloc (.cells #[.int .i64 x] 3)) := (Ext.refl _).alloc_ _
        have hn0 := HNK.out
        obtain ⟨A5, c5, w5, hrun, hown5, hgr5, _⟩ := append_ints (Own.ext HOY.out hx4) (one_int wq x) (by omega) (by have h' := HBY.out.b.size; simp; omega)
        have HO5 := Lib.hid hown5
        have HB5 : Hid (Ext w1 w5) := Lib.hid (ext_of_grown (HBY.out.trans' hx4) hgr5 (fun k hk => (Own.lt HOY.out k hk).1))
        clear hown5 hgr5 hx4 hn0
        go_wp2_with (at_builtin; refine wpList_run_append rfl _ _ _ rfl _ _ rfl rfl _ _ hrun ?_)
        go_roundg gk'
        case measure => omega
        case rel => exact ⟨k + 1, A5, (m + 1) + 1, c5, pre ++ s :: (tl ++ [y]), [], some x, by omega, by go_num, rfl, Lib.hid (by simpa using HO5.out), HB5, HF, Lib.hid (by intro h; cases h), Lib.hid (by have := HNK.out; omega), Lib.hid (fun z hz => by cases hz), Lib.hid (fun z hz => by injection hz with hz; subst hz; exact HKX.out)⟩
       ·
        have HF : Hid (V = frmGo T (pre) (some s) ((tl ++ [y]) ++ [x]) (D.drop (k + 1))) := Lib.hid (HNX.out.trans (if_neg hk))
        have HKX : Hid (clsT T x ≠ 0) := Lib.hid hk
        clear hk HNX
        have hx4 : Ext wq (wq.alloc (.cells #[.int .i64 x] 3)) := (Ext.refl _).alloc_ _
        have hn0 := HNK.out
        obtain ⟨A5, c5, w5, hrun, hown5, hgr5, _⟩ := append_ints (Own.ext HOY.out hx4) (one_int wq x) (by omega) (by have h' := HBY.out.b.size; simp; omega)
        have HO5 := Lib.hid hown5
        have HB5 : Hid (Ext w1 w5) := Lib.hid (ext_of_grown (HBY.out.trans' hx4) hgr5 (fun k hk => (Own.lt HOY.out k hk).1))
        clear hown5 hgr5 hx4 hn0
        go_wp2_with (at_builtin; refine wpList_run_append rfl _ _ _ rfl _ _ rfl rfl _ _ hrun ?_)
        go_roundg gk'
        case measure => omega
        case rel => exact ⟨k + 1, A5, (m + 1) + 1, c5, pre, (tl ++ [y]) ++ [x], some s, by omega, by go_num, rfl, Lib.hid (by simpa using HO5.out), HB5, HF, Lib.hid (by intro h; cases h), Lib.hid (by have := HNK.out; omega), Lib.hid (fun z hz => by rcases List.mem_append.1 hz with hz | hz; exact HTC.out z hz; rw [List.mem_singleton] at hz; subst hz; exact HKX.out), HSC⟩
      ·
       have e2 : decide (clsT T x ≤ clsT T y) = false := decide_eq_false h2
       have HBF : Hid (blkB T (tl ++ [y]) x = false) := Lib.hid (by rw [HBL.out, e2])
       clear h2
       have HOI := HOY
       have HBI := HBY
       clear HOY HBY
       have rT : ∀ yy : ExtW wo, ∀ k : Nat, yy.w.cell? ⟨w.heap.size, k, none⟩ = t.v.cells[k]? := fun yy => HBX.out _ (HBI.out.trans' yy.h)
       have rX0 : ∀ yy : ExtW wo, yy.w.cell? ⟨g, m, none⟩ = some (.int .i64 y) := ext_cell (OwnI.cell HOI.out (m) y HXY.out)
       go_wp2_with fail
       refine region_ext (by kernel_rfl) (by kernel_rfl) ?_
       repeat (go_big_quiet_step (first | (go_at_call 68; with_reducible exact quiet_ext (HCL.out y _ (HBI.out.trans' (ExtW.h _)))) | (go_at_call 68; with_reducible exact quiet_ext (HCL.out x _ (HBI.out.trans' (ExtW.h _))))))
       refine wpQuiet_nil ?_
       rintro _ ⟨yw, rfl⟩
       clear rT rX0
       obtain ⟨wq, hwq⟩ : ∃ wq : World, wq = yw.w := ⟨_, rfl⟩
       have HOY : Hid (OwnI wq w1.heap.size _ _ c2 _) := Lib.hid (by rw [hwq]; exact Own.ext HOI.out yw.h)
       have HBY : Hid (Ext w1 wq) := Lib.hid (by rw [hwq]; exact HBI.out.trans' yw.h)
       rw [← hwq]
       clear hwq HOI HBI
       cases hpt : pairT T s x with
       | some y2 =>
        have HF : Hid (V = frmGo T pre (some y2) ((tl ++ [y])) (D.drop (k + 1))) := Lib.hid (by rw [HRX.out, frmGo, HBF.out, if_neg (by simp), hpt])
        have HP : Hid (pairV T s x = (y2, true)) := Lib.hid (by rw [pairV, hpt])
        have HY2 := Lib.hid (pair_exp HC.out HLX.out hpt).2.1
        clear hpt HRX
        have HOI := HOY
        have HBI := HBY
        clear HOY HBY
        have HPC : Hid (∀ (w' : World), Ext w1 w' → Calls Tryz.prog 72 #[t.v, .int .i64 s, .int .i64 x] w' fun e w'' => e = .returned (.tuple #[.int .i64 y2, .bool true]) ∧ Ext w' w'') := Lib.hid (fun w' h => by
         have h' := rpair_spec T HW.out t s x w' (HT.out.ext_ (HB1.out.trans' h))
         rw [HP.out] at h'
         exact h')
        have rT : ∀ yy : ExtW wq, ∀ k : Nat, yy.w.cell? ⟨w.heap.size, k, none⟩ = t.v.cells[k]? := fun yy => HBX.out _ (HBI.out.trans' yy.h)
        have rX0 : ∀ yy : ExtW wq, yy.w.cell? ⟨g, pre.length, none⟩ = some (.int .i64 s) := ext_cell (OwnI.cell HOI.out (pre.length) s (by simp))
        go_wp2_with fail
        refine region_ext (by kernel_rfl) (by kernel_rfl) ?_
        repeat (go_big_quiet_step (first | (go_at_call 72; with_reducible exact quiet_ext (HPC.out _ (HBI.out.trans' (ExtW.h _))))))
        refine wpQuiet_nil ?_
        rintro _ ⟨yw, rfl⟩
        clear rT rX0
        obtain ⟨wp, hwp⟩ : ∃ wp : World, wp = yw.w := ⟨_, rfl⟩
        have HOY : Hid (OwnI wp w1.heap.size _ _ c2 _) := Lib.hid (by rw [hwp]; exact Own.ext HOI.out yw.h)
        have HBY : Hid (Ext w1 wp) := Lib.hid (by rw [hwp]; exact HBI.out.trans' yw.h)
        rw [← hwp]
        clear hwp HOI HBI
        have r0 : wp.cell? ⟨g, pre.length, none⟩ = some (.int .i64 s) := HOY.out.cell pre.length s (by simp)
        have f0 : wp.frozen? ⟨g, pre.length, none⟩ = false := HOY.out.frozen pre.length
        have HO5 := Lib.hid (HOY.out.set pre.length y2)
        have hgb : w1.heap.size ≤ g := (Own.lt HOY.out g rfl).1
        have HB5 := Lib.hid (HBY.out.setCell_ (p := ⟨g, pre.length, none⟩) hgb (.int .i64 y2))
        generalize hpl : pre.length = p at *
        go_wp2_with fail
        go_roundg gk'
        case measure => omega
        case rel => exact ⟨k + 1, some ⟨g, 0, none⟩, m + 1, c2, pre, (tl ++ [y]), some y2, by omega, by go_num, rfl, Lib.hid (by have h5 := HO5.out; rw [← hpl] at h5 ⊢; simpa [List.set_append] using h5), HB5, HF, Lib.hid (by intro h; cases h), Lib.hid (by have := HNK.out; omega), HTC, Lib.hid (fun z hz => by injection hz with hz; subst hz; exact HY2.out)⟩
       | none =>
        have HNX : Hid (V = if clsT T x = 0 then frmGo T (pre ++ s :: ((tl ++ [y]))) (some x) [] (D.drop (k + 1)) else frmGo T pre (some s) ((tl ++ [y]) ++ [x]) (D.drop (k + 1))) := Lib.hid (by rw [HRX.out, frmGo, HBF.out, if_neg (by simp), hpt])
        have HP : Hid (pairV T s x = (0, false)) := Lib.hid (by rw [pairV, hpt])
        clear hpt HRX
        have HOI := HOY
        have HBI := HBY
        clear HOY HBY
        have HPC : Hid (∀ (w' : World), Ext w1 w' → Calls Tryz.prog 72 #[t.v, .int .i64 s, .int .i64 x] w' fun e w'' => e = .returned (.tuple #[.int .i64 0, .bool false]) ∧ Ext w' w'') := Lib.hid (fun w' h => by
         have h' := rpair_spec T HW.out t s x w' (HT.out.ext_ (HB1.out.trans' h))
         rw [HP.out] at h'
         exact h')
        have rT : ∀ yy : ExtW wq, ∀ k : Nat, yy.w.cell? ⟨w.heap.size, k, none⟩ = t.v.cells[k]? := fun yy => HBX.out _ (HBI.out.trans' yy.h)
        have rX0 : ∀ yy : ExtW wq, yy.w.cell? ⟨g, pre.length, none⟩ = some (.int .i64 s) := ext_cell (OwnI.cell HOI.out (pre.length) s (by simp))
        go_wp2_with fail
        refine region_ext (by kernel_rfl) (by kernel_rfl) ?_
        repeat (go_big_quiet_step (first | (go_at_call 72; with_reducible exact quiet_ext (HPC.out _ (HBI.out.trans' (ExtW.h _))))))
        refine wpQuiet_nil ?_
        rintro _ ⟨yw, rfl⟩
        clear rT rX0
        obtain ⟨wp, hwp⟩ : ∃ wp : World, wp = yw.w := ⟨_, rfl⟩
        have HOY : Hid (OwnI wp w1.heap.size _ _ c2 _) := Lib.hid (by rw [hwp]; exact Own.ext HOI.out yw.h)
        have HBY : Hid (Ext w1 wp) := Lib.hid (by rw [hwp]; exact HBI.out.trans' yw.h)
        rw [← hwp]
        clear hwp HOI HBI
        by_cases hk : clsT T x = 0
        ·
         have HF : Hid (V = frmGo T (pre ++ s :: (tl ++ [y])) (some x) ([]) (D.drop (k + 1))) := Lib.hid (HNX.out.trans (if_pos hk))
         have HKX : Hid (clsT T x = 0) := Lib.hid hk
         clear hk HNX
         have hx4 : Ext wp (wp.alloc (.cells #[.int .i64 x] 3)) := (Ext.refl _).alloc_ _
         have hn0 := HNK.out
         obtain ⟨A5, c5, w5, hrun, hown5, hgr5, _⟩ := append_ints (Own.ext HOY.out hx4) (one_int wp x) (by omega) (by have h' := HBY.out.b.size; simp; omega)
         have HO5 := Lib.hid hown5
         have HB5 : Hid (Ext w1 w5) := Lib.hid (ext_of_grown (HBY.out.trans' hx4) hgr5 (fun k hk => (Own.lt HOY.out k hk).1))
         clear hown5 hgr5 hx4 hn0
         go_wp2_with (at_builtin; refine wpList_run_append rfl _ _ _ rfl _ _ rfl rfl _ _ hrun ?_)
         go_roundg gk'
         case measure => omega
         case rel => exact ⟨k + 1, A5, (m + 1) + 1, c5, pre ++ s :: (tl ++ [y]), [], some x, by omega, by go_num, rfl, Lib.hid (by simpa using HO5.out), HB5, HF, Lib.hid (by intro h; cases h), Lib.hid (by have := HNK.out; omega), Lib.hid (fun z hz => by cases hz), Lib.hid (fun z hz => by injection hz with hz; subst hz; exact HKX.out)⟩
        ·
         have HF : Hid (V = frmGo T (pre) (some s) ((tl ++ [y]) ++ [x]) (D.drop (k + 1))) := Lib.hid (HNX.out.trans (if_neg hk))
         have HKX : Hid (clsT T x ≠ 0) := Lib.hid hk
         clear hk HNX
         have hx4 : Ext wp (wp.alloc (.cells #[.int .i64 x] 3)) := (Ext.refl _).alloc_ _
         have hn0 := HNK.out
         obtain ⟨A5, c5, w5, hrun, hown5, hgr5, _⟩ := append_ints (Own.ext HOY.out hx4) (one_int wp x) (by omega) (by have h' := HBY.out.b.size; simp; omega)
         have HO5 := Lib.hid hown5
         have HB5 : Hid (Ext w1 w5) := Lib.hid (ext_of_grown (HBY.out.trans' hx4) hgr5 (fun k hk => (Own.lt HOY.out k hk).1))
         clear hown5 hgr5 hx4 hn0
         go_wp2_with (at_builtin; refine wpList_run_append rfl _ _ _ rfl _ _ rfl rfl _ _ hrun ?_)
         go_roundg gk'
         case measure => omega
         case rel => exact ⟨k + 1, A5, (m + 1) + 1, c5, pre, (tl ++ [y]) ++ [x], some s, by omega, by go_num, rfl, Lib.hid (by simpa using HO5.out), HB5, HF, Lib.hid (by intro h; cases h), Lib.hid (by have := HNK.out; omega), Lib.hid (fun z hz => by rcases List.mem_append.1 hz with hz | hz; exact HTC.out z hz; rw [List.mem_singleton] at hz; subst hz; exact HKX.out), HSC⟩
    ·
     have hr : r < tail.length := by omega
     have HY : Hid ((pre ++ s :: tail)[j]? = some tail[r]) := Lib.hid (by
      have hj := HJ.out
      rw [show j = pre.length + (r + 1) from by omega, List.getElem?_append_right (by omega), Nat.add_sub_cancel_left, List.getElem?_cons_succ, List.getElem?_eq_getElem hr])
     have HYC := Lib.hid (HTC.out _ (List.getElem_mem hr))
     generalize tail[r] = y at *
     have hj0 : (0 : Int) ≤ (j : Int) := Int.natCast_nonneg _
     have hj1 : (j : Int) < ((m + 1 : Nat) : Int) := by have := HJ.out; have := HN.out; omega
     have hd : decide ((0 : Int) ≤ (j : Int)) = true := decide_eq_true hj0
     have e1 : (clsT T y != 0) = true := by rw [bne_iff_ne]; exact HYC.out
     have rT : ∀ yy : ExtW wr, ∀ k : Nat, yy.w.cell? ⟨w.heap.size, k, none⟩ = t.v.cells[k]? := fun yy => HBX.out _ (HBI.out.trans' yy.h)
     have rX0 : ∀ yy : ExtW wr, yy.w.cell? ⟨g, j, none⟩ = some (.int .i64 y) := ext_cell (OwnI.cell HOI.out (j) y HY.out)
     go_wp2_with fail
     refine region_ext (by kernel_rfl) (by kernel_rfl) ?_
     repeat (go_big_quiet_step (first | (go_at_call 68; with_reducible exact quiet_ext (HCL.out y _ (HBI.out.trans' (ExtW.h _))))))
     refine wpQuiet_nil ?_
     rintro _ ⟨yw, rfl⟩
     clear rT rX0
     obtain ⟨wo, hwo⟩ : ∃ wo : World, wo = yw.w := ⟨_, rfl⟩
     have HOY : Hid (OwnI wo w1.heap.size _ _ c2 _) := Lib.hid (by rw [hwo]; exact Own.ext HOI.out yw.h)
     have HBY : Hid (Ext w1 wo) := Lib.hid (by rw [hwo]; exact HBI.out.trans' yw.h)
     rw [← hwo]
     clear hwo HOI HBI
     go_wp2_with fail
     go_roundg r
     case measure => omega
     case rel =>
      refine ⟨by omega, ?_, HOY, HBY⟩
      rcases Nat.eq_zero_or_pos r with h0 | h0
      ·exact .inl ⟨h0, by have := HJ.out; first | (congr 1; omega) | go_num⟩
      ·exact .inr ⟨r - 1, j - 1, by omega, by have := HJ.out; first | (congr 1; omega) | go_num, Lib.hid (by have := HJ.out; omega)⟩
set_option maxHeartbeats 1600000 in
set_option maxRecDepth 100000 in
theorem risnfc_spec (T : Tbl) (t : TV) (l : List Int) (A : Option Addr) (n c : Nat) (w : World) (ht : TblS w t T) (hi : IntS w ⟨A, n, c⟩ l) :
  Calls Tryz.prog 81 #[t.v, .slice A n c] w fun e w' => e = .returned (.bool (isNfc T l)) ∧ Ext w w' := by
 have hba := tw_ext w t
 have HT := Lib.hid (ht.ext_ hba)
 have HI := Lib.hid (hi.ext hba)
 clear ht hi
 cases hz : (nfdErr T l == 0)
 ·have HV : Hid (isNfc T l = false) := Lib.hid (by rw [isNfc, hz]; rfl)
  go_enter Tryz.func81, Tryz.ntmps81
  go_wp2_with fail
  refine (rnfc_spec T t l A n c _ HT.out HI.out).mono ?_
  rintro e w1 ⟨B, m, d, rfl, hb1, hi1⟩
  have hb := hba.trans' hb1
  clear hb1 hi1
  go_wp2_with fail
  go_ret
  exact ⟨ret_bool HV.out.symm, hb⟩
 ·have HV : Hid (isNfc T l = sameB (nfcRes T l) l) := Lib.hid (by rw [isNfc, hz]; rfl)
  go_enter Tryz.func81, Tryz.ntmps81
  go_wp2_with fail
  refine (rnfc_spec T t l A n c _ HT.out HI.out).mono ?_
  rintro e w1 ⟨B, m, d, rfl, hb1, hi1⟩
  have HB1 := Lib.hid hb1
  have HI1 := Lib.hid hi1
  clear hb1 hi1
  go_wp2_with fail
  refine (rsame_spec (nfcRes T l) l B m d A n c _ HI1.out (HI.out.ext HB1.out)).mono ?_
  rintro e w2 ⟨rfl, hb2⟩
  have hb := (hba.trans' HB1.out).trans' hb2
  clear hb2
  go_wp2_with fail
  go_ret
  exact ⟨ret_bool HV.out.symm, hb⟩
end Go.Proofs.YtbdabjhankgcmaaGreatDoor
