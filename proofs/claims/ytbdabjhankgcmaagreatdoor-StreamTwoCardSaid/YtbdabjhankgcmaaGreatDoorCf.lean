/- Walks: compose.Form. Written by cf_gen.py. -/
import Derived.Test.YtbdabjhankgcmaaGreatDoorGy
import Derived.Test.YtbdabjhankgcmaaGreatDoorGz
namespace Go.Proofs.YtbdabjhankgcmaaGreatDoor
open Go.RowKit
def stV (pre : List Int) : Option Int → Int
 | none => -1
 | some _ => pre.length
def CfLoop (T : Tbl) (w1 : World) (l V : List Int) (gh : Nat) (s6 s7 s20 : Value) (wx : World) : Prop :=
 ∃ (k : Nat) (A : Option Addr) (n c : Nat) (pre tail : List Int) (st : Option Int), k + gh = l.length ∧ s20 = .int .i64 k ∧ s6 = .slice A n c ∧ s7 = .int .i64 (stV pre st) ∧ Hid (OwnI wx w1.heap.size A n c (pre ++ st.toList ++ tail)) ∧ Hid (Ext w1 wx) ∧ Hid (V = frmGo T pre st tail (l.drop k)) ∧ Hid (st = none → pre = []) ∧ Hid (n ≤ k)
theorem blkB_last {T : Tbl} {tail : List Int} {y c : Int} : blkB T (tail ++ [y]) c = (decide (clsT T y = 0) || decide (clsT T c ≤ clsT T y)) := by
 simp [blkB]
set_option maxHeartbeats 6400000 in
set_option maxRecDepth 100000 in
theorem cform_own (T : Tbl) (hw : wfB T = true) (t : TV) (l : List Int) (A : Option Addr) (n c : Nat) (w : World) (ht : TblS w t T) (hi : IntS w ⟨A, n, c⟩ l) (hl : l.length ≤ 1000000000) :
  Calls Tryz.prog 57 #[t.v, .slice A n c] w fun e w' => ∃ B m d, e = .returned (.slice B m d) ∧ IntS w' ⟨B, m, d⟩ (frmT T l) ∧ Ext w w' ∧ ∀ b, blkOf B = some b → w.heap.size ≤ b := by
 have hba := tw_ext w t
 have HT := Lib.hid (ht.ext_ hba)
 have HI := Lib.hid (hi.ext hba)
 have HW := Lib.hid hw
 have HS := Lib.hid (wf_srt hw)
 have hn := hi.len.1
 subst hn
 have HV : Hid (frmT T l = frmGo T [] none [] (l.drop 0)) := Lib.hid rfl
 generalize frmT T l = V at *
 clear ht hi hw
 go_enter Tryz.func57, Tryz.ntmps57
 go_wp2_with fail
 refine (collect_spec t T _ HT.out HW.out).mono ?_
 rintro e w1 ⟨r, rfl, hr0, hpm, hb1⟩
 have HPM := Lib.hid hpm
 have HB1 := Lib.hid hb1
 have hzw : w.heap.size < w1.heap.size := by have h' := hb1.b.size; simp at h'; omega
 clear hpm hb1
 go_wp2_with fail
 go_loopg [6, 7, 20] l.length (fun gh s6 s7 s20 wx => CfLoop T w1 l V gh s6 s7 s20 wx)
 case atStart => exact ⟨0, none, 0, 0, [], [], none, by omega, rfl, rfl, rfl, Lib.hid (Own.nil_ _ _ _ _), Lib.hid (Ext.refl _), HV, Lib.hid (fun _ => rfl), Lib.hid (Nat.le_refl _)⟩
 case round =>
  obtain ⟨k, A2, n2, c2, pre, tail, st, hkg, rfl, rfl, rfl, HO, HB, HR, HST, HNK⟩ := hrel
  have HBW := Lib.hid (HB1.out.trans' HB.out)
  have HIR := Lib.hid (HI.out.ext HBW.out)
  have hzr : w1.heap.size ≤ wr.heap.size := HB.out.b.size
  by_cases hlt : k < l.length
  ·obtain ⟨gk', rfl⟩ : ∃ g', gk = g' + 1 := ⟨gk - 1, by omega⟩
   obtain ⟨b, o, hA, hcx⟩ := HIR.out.at_ hlt
   subst hA
   have HD : Hid (l.drop k = l[k] :: l.drop (k + 1)) := drop_at l k hlt
   generalize l[k] = x at *
   have hk0 : (0 : Int) ≤ (k : Int) := Int.natCast_nonneg _
   have hk1 : (k : Int) < (l.length : Int) := by omega
   have hn0 := HNK.out
   have rT : ∀ k : Nat, wr.cell? ⟨w.heap.size, k, none⟩ = t.v.cells[k]? := box_at HBW.out
   have HCL := Lib.hid (class_spec t T x wr (HT.out.ext_ HBW.out) HS.out)
   have HN : Hid (n2 = (pre ++ st.toList ++ tail).length) := Lib.hid (by have := HO.out.len; simp at this ⊢; omega)
   have HRX : Hid (V = frmGo T pre st tail (x :: l.drop (k + 1))) := Lib.hid (by rw [HR.out, HD.out])
   clear HR HD HV
   cases st with
   | none =>
    have hpz : pre = [] := HST.out rfl
    have HNB : Hid (n2 = tail.length) := Lib.hid (by rw [HN.out, hpz]; simp)
    have HPZ := Lib.hid hpz
    clear hpz
    have hd : decide ((-1 : Int) < 0) = true := rfl
    by_cases hk : clsT T x = 0
    ·
     have HF : Hid (V = frmGo T (pre ++ tail) (some x) ([]) (l.drop (k + 1))) := Lib.hid (HRX.out.trans ((frm_n pre (tail) x (l.drop (k + 1))).trans (if_pos hk)))
     have hkb : (clsT T x == 0) = true := by rw [beq_iff_eq]; exact hk
     clear hk HRX
     generalize clsT T x = kx at *
     go_wp2_with fail
     refine HCL.out.mono ?_
     rintro e w3 ⟨rfl, hb3⟩
     have HB3 := Lib.hid (HB.out.trans' hb3)
     have HO3 : Hid (OwnI w3 _ _ _ _ _) := Lib.hid (Own.ext HO.out hb3)
     have hz3 : wr.heap.size ≤ w3.heap.size := hb3.b.size
     have HBX : Hid (∀ (w' : World), Ext w1 w' → ∀ k : Nat, w'.cell? ⟨w.heap.size, k, none⟩ = t.v.cells[k]?) := Lib.hid fun w' hw' => box_at (HB1.out.trans' hw')
     clear hb3 rT hcx
     have HOZ := HO3
     have HBZ := HB3
     have hx4 : Ext w3 (w3.alloc (.cells #[.int .i64 x] 3)) := (Ext.refl _).alloc_ _
     obtain ⟨A5, c5, w5, hrun, hown5, hgr5, _⟩ := append_ints (Own.ext HOZ.out hx4) (one_int w3 x) (by omega) (by have h' := HBZ.out.b.size; simp; omega)
     have HO5 := Lib.hid hown5
     have HB5 : Hid (Ext w1 w5) := Lib.hid (ext_of_grown (HBZ.out.trans' hx4) hgr5 (fun k hk => (Own.lt HOZ.out k hk).1))
     clear hown5 hgr5 hx4
     go_wp2_with (at_builtin; refine wpList_run_append rfl _ _ _ rfl _ _ rfl rfl _ _ hrun ?_)
     go_roundg gk'
     case measure => omega
     case rel => exact ⟨k + 1, A5, n2 + 1, c5, pre ++ tail, [], some x, by omega, by go_num, rfl, (by show Value.int .i64 (((n2 : Nat)) : Int) = Value.int .i64 (((pre ++ tail).length : Nat) : Int); rw [HN.out]; simp), Lib.hid (by simpa using HO5.out), HB5, HF, Lib.hid (by intro h; cases h), Lib.hid (by omega)⟩
    ·
     have HF : Hid (V = frmGo T (pre) (none) (tail ++ [x]) (l.drop (k + 1))) := Lib.hid (HRX.out.trans ((frm_n pre (tail) x (l.drop (k + 1))).trans (if_neg hk)))
     have hkb : (clsT T x == 0) = false := by rw [beq_eq_false_iff_ne]; exact hk
     clear hk HRX
     generalize clsT T x = kx at *
     go_wp2_with fail
     refine HCL.out.mono ?_
     rintro e w3 ⟨rfl, hb3⟩
     have HB3 := Lib.hid (HB.out.trans' hb3)
     have HO3 : Hid (OwnI w3 _ _ _ _ _) := Lib.hid (Own.ext HO.out hb3)
     have hz3 : wr.heap.size ≤ w3.heap.size := hb3.b.size
     have HBX : Hid (∀ (w' : World), Ext w1 w' → ∀ k : Nat, w'.cell? ⟨w.heap.size, k, none⟩ = t.v.cells[k]?) := Lib.hid fun w' hw' => box_at (HB1.out.trans' hw')
     clear hb3 rT hcx
     have HOZ := HO3
     have HBZ := HB3
     have hx4 : Ext w3 (w3.alloc (.cells #[.int .i64 x] 3)) := (Ext.refl _).alloc_ _
     obtain ⟨A5, c5, w5, hrun, hown5, hgr5, _⟩ := append_ints (Own.ext HOZ.out hx4) (one_int w3 x) (by omega) (by have h' := HBZ.out.b.size; simp; omega)
     have HO5 := Lib.hid hown5
     have HB5 : Hid (Ext w1 w5) := Lib.hid (ext_of_grown (HBZ.out.trans' hx4) hgr5 (fun k hk => (Own.lt HOZ.out k hk).1))
     clear hown5 hgr5 hx4
     go_wp2_with (at_builtin; refine wpList_run_append rfl _ _ _ rfl _ _ rfl rfl _ _ hrun ?_)
     go_roundg gk'
     case measure => omega
     case rel => exact ⟨k + 1, A5, n2 + 1, c5, pre, tail ++ [x], none, by omega, by go_num, rfl, rfl, Lib.hid (by simpa using HO5.out), HB5, HF, Lib.hid (fun _ => HPZ.out), Lib.hid (by omega)⟩
   | some s =>
    obtain ⟨m, rfl⟩ : ∃ m, n2 = m + 1 := ⟨n2 - 1, by have := HN.out; simp at this; omega⟩
    obtain ⟨g, rfl⟩ := HO.out.some_ (by omega)
    have hsub : ((m + 1 : Nat) : Int) - 1 = (m : Int) := by omega
    have hp0 : (0 : Int) ≤ (pre.length : Int) := Int.natCast_nonneg _
    have hd : decide ((pre.length : Int) < 0) = false := by rw [decide_eq_false_iff_not]; omega
    have hd0 : decide ((0 : Int) ≤ (pre.length : Int)) = true := by rw [decide_eq_true_eq]; omega
    have hst : stV pre (some s) = (pre.length : Int) := rfl
    rw [hst]
    clear hst
    have hpm1 : (pre.length : Int) < ((m + 1 : Nat) : Int) := by have := HN.out; simp at this; omega
    have hm1 : (m : Int) < ((m + 1 : Nat) : Int) := by omega
    have hm0 : (0 : Int) ≤ (m : Int) := Int.natCast_nonneg _
    rcases List.eq_nil_or_concat tail with htl | ⟨tl, y, htl⟩
    ·
     subst htl
     have hml : m = pre.length := by have := HN.out; simp at this; omega
     have hd1 : decide ((pre.length : Int) < (m : Int)) = false := by rw [decide_eq_false_iff_not]; omega
     have hd2 : decide (pre.length < m) = false := by rw [decide_eq_false_iff_not]; omega
     have HML := Lib.hid hml
     clear hml
     cases hpt : pairT T s x with
     | some y2 =>
      have HF : Hid (V = frmGo T pre (some y2) ([]) (l.drop (k + 1))) := Lib.hid (by rw [HRX.out, frmGo, show blkB T [] x = false from rfl, if_neg (by simp), hpt])
      have HP : Hid (pairV T s x = (y2, true)) := Lib.hid (by rw [pairV, hpt])
      clear hpt HRX
      go_wp2_with fail
      refine HCL.out.mono ?_
      rintro e w3 ⟨rfl, hb3⟩
      have HB3 := Lib.hid (HB.out.trans' hb3)
      have HO3 : Hid (OwnI w3 _ _ _ _ _) := Lib.hid (Own.ext HO.out hb3)
      have hz3 : wr.heap.size ≤ w3.heap.size := hb3.b.size
      have HBX : Hid (∀ (w' : World), Ext w1 w' → ∀ k : Nat, w'.cell? ⟨w.heap.size, k, none⟩ = t.v.cells[k]?) := Lib.hid fun w' hw' => box_at (HB1.out.trans' hw')
      clear hb3 rT hcx
      have HOY := HO3
      have HBY := HB3
      have r3 : w3.cell? ⟨g, pre.length, none⟩ = some (.int .i64 s) := OwnI.cell HO3.out pre.length s (by simp)
      go_wp2_with fail
      refine (pair_spec T r s x _ (HPM.out.ext HBY.out)).mono ?_
      rintro e w4 ⟨rfl, hb4⟩
      have HOZ : Hid (OwnI w4 _ _ _ _ _) := Lib.hid (Own.ext HOY.out hb4)
      have HBZ := Lib.hid (HBY.out.trans' hb4)
      have hz4 := hb4.b.size
      clear hb4
      rw [HP.out]
      have r0 : w4.cell? ⟨g, pre.length, none⟩ = some (.int .i64 s) := HOZ.out.cell pre.length s (by simp)
      have f0 : w4.frozen? ⟨g, pre.length, none⟩ = false := HOZ.out.frozen pre.length
      have HO5 := Lib.hid (HOZ.out.set pre.length y2)
      have hgb : w1.heap.size ≤ g := (Own.lt HOZ.out g rfl).1
      have HB5 := Lib.hid (HBZ.out.setCell_ (p := ⟨g, pre.length, none⟩) hgb (.int .i64 y2))
      generalize hpl : pre.length = p at *
      go_wp2_with fail
      go_roundg gk'
      case measure => omega
      case rel => exact ⟨k + 1, some ⟨g, 0, none⟩, m + 1, c2, pre, [], some y2, by omega, by go_num, rfl, (by rw [← hpl]; rfl), Lib.hid (by have h5 := HO5.out; rw [← hpl] at h5 ⊢; simpa [List.set_append] using h5), HB5, HF, Lib.hid (by intro h; cases h), Lib.hid (by omega)⟩
     | none =>
      have HNX : Hid (V = if clsT T x = 0 then frmGo T (pre ++ s :: ([])) (some x) [] (l.drop (k + 1)) else frmGo T pre (some s) ([] ++ [x]) (l.drop (k + 1))) := Lib.hid (by rw [HRX.out, frmGo, show blkB T [] x = false from rfl, if_neg (by simp), hpt])
      have HP : Hid (pairV T s x = (0, false)) := Lib.hid (by rw [pairV, hpt])
      clear hpt
      by_cases hk : clsT T x = 0
      ·
       have HF : Hid (V = frmGo T (pre ++ s :: []) (some x) ([]) (l.drop (k + 1))) := Lib.hid (HNX.out.trans (if_pos hk))
       have hkb : (clsT T x == 0) = true := by rw [beq_iff_eq]; exact hk
       clear hk HRX HNX
       generalize clsT T x = kx at *
       go_wp2_with fail
       refine HCL.out.mono ?_
       rintro e w3 ⟨rfl, hb3⟩
       have HB3 := Lib.hid (HB.out.trans' hb3)
       have HO3 : Hid (OwnI w3 _ _ _ _ _) := Lib.hid (Own.ext HO.out hb3)
       have hz3 : wr.heap.size ≤ w3.heap.size := hb3.b.size
       have HBX : Hid (∀ (w' : World), Ext w1 w' → ∀ k : Nat, w'.cell? ⟨w.heap.size, k, none⟩ = t.v.cells[k]?) := Lib.hid fun w' hw' => box_at (HB1.out.trans' hw')
       clear hb3 rT hcx
       have HOY := HO3
       have HBY := HB3
       have r3 : w3.cell? ⟨g, pre.length, none⟩ = some (.int .i64 s) := OwnI.cell HO3.out pre.length s (by simp)
       go_wp2_with fail
       refine (pair_spec T r s x _ (HPM.out.ext HBY.out)).mono ?_
       rintro e w4 ⟨rfl, hb4⟩
       have HOZ : Hid (OwnI w4 _ _ _ _ _) := Lib.hid (Own.ext HOY.out hb4)
       have HBZ := Lib.hid (HBY.out.trans' hb4)
       have hz4 := hb4.b.size
       clear hb4
       rw [HP.out]
       have hx4 : Ext w4 (w4.alloc (.cells #[.int .i64 x] 3)) := (Ext.refl _).alloc_ _
       obtain ⟨A5, c5, w5, hrun, hown5, hgr5, _⟩ := append_ints (Own.ext HOZ.out hx4) (one_int w4 x) (by omega) (by have h' := HBZ.out.b.size; simp; omega)
       have HO5 := Lib.hid hown5
       have HB5 : Hid (Ext w1 w5) := Lib.hid (ext_of_grown (HBZ.out.trans' hx4) hgr5 (fun k hk => (Own.lt HOZ.out k hk).1))
       clear hown5 hgr5 hx4
       go_wp2_with (at_builtin; refine wpList_run_append rfl _ _ _ rfl _ _ rfl rfl _ _ hrun ?_)
       go_roundg gk'
       case measure => omega
       case rel => exact ⟨k + 1, A5, (m + 1) + 1, c5, pre ++ s :: [], [], some x, by omega, by go_num, rfl, (by show Value.int .i64 ((((m + 1) : Nat)) : Int) = Value.int .i64 (((pre ++ s :: []).length : Nat) : Int); rw [HN.out]; simp), Lib.hid (by simpa using HO5.out), HB5, HF, Lib.hid (by intro h; cases h), Lib.hid (by omega)⟩
      ·
       have HF : Hid (V = frmGo T (pre) (some s) ([] ++ [x]) (l.drop (k + 1))) := Lib.hid (HNX.out.trans (if_neg hk))
       have hkb : (clsT T x == 0) = false := by rw [beq_eq_false_iff_ne]; exact hk
       clear hk HRX HNX
       generalize clsT T x = kx at *
       go_wp2_with fail
       refine HCL.out.mono ?_
       rintro e w3 ⟨rfl, hb3⟩
       have HB3 := Lib.hid (HB.out.trans' hb3)
       have HO3 : Hid (OwnI w3 _ _ _ _ _) := Lib.hid (Own.ext HO.out hb3)
       have hz3 : wr.heap.size ≤ w3.heap.size := hb3.b.size
       have HBX : Hid (∀ (w' : World), Ext w1 w' → ∀ k : Nat, w'.cell? ⟨w.heap.size, k, none⟩ = t.v.cells[k]?) := Lib.hid fun w' hw' => box_at (HB1.out.trans' hw')
       clear hb3 rT hcx
       have HOY := HO3
       have HBY := HB3
       have r3 : w3.cell? ⟨g, pre.length, none⟩ = some (.int .i64 s) := OwnI.cell HO3.out pre.length s (by simp)
       go_wp2_with fail
       refine (pair_spec T r s x _ (HPM.out.ext HBY.out)).mono ?_
       rintro e w4 ⟨rfl, hb4⟩
       have HOZ : Hid (OwnI w4 _ _ _ _ _) := Lib.hid (Own.ext HOY.out hb4)
       have HBZ := Lib.hid (HBY.out.trans' hb4)
       have hz4 := hb4.b.size
       clear hb4
       rw [HP.out]
       have hx4 : Ext w4 (w4.alloc (.cells #[.int .i64 x] 3)) := (Ext.refl _).alloc_ _
       obtain ⟨A5, c5, w5, hrun, hown5, hgr5, _⟩ := append_ints (Own.ext HOZ.out hx4) (one_int w4 x) (by omega) (by have h' := HBZ.out.b.size; simp; omega)
       have HO5 := Lib.hid hown5
       have HB5 : Hid (Ext w1 w5) := Lib.hid (ext_of_grown (HBZ.out.trans' hx4) hgr5 (fun k hk => (Own.lt HOZ.out k hk).1))
       clear hown5 hgr5 hx4
       go_wp2_with (at_builtin; refine wpList_run_append rfl _ _ _ rfl _ _ rfl rfl _ _ hrun ?_)
       go_roundg gk'
       case measure => omega
       case rel => exact ⟨k + 1, A5, (m + 1) + 1, c5, pre, [] ++ [x], some s, by omega, by go_num, rfl, rfl, Lib.hid (by simpa using HO5.out), HB5, HF, Lib.hid (by intro h; cases h), Lib.hid (by omega)⟩
    ·
     rw [List.concat_eq_append] at htl
     subst htl
     have hml : m = (pre ++ s :: tl).length := by have := HN.out; simp at this ⊢; omega
     have hmp : pre.length < m := by rw [hml]; simp
     have hd1 : decide ((pre.length : Int) < (m : Int)) = true := by rw [decide_eq_true_eq]; omega
     have hd2 : decide (pre.length < m) = true := by rw [decide_eq_true_eq]; omega
     have HXY : Hid ((pre ++ (some s).toList ++ (tl ++ [y]))[m]? = some y) := Lib.hid (by
      have e : pre ++ (some s).toList ++ (tl ++ [y]) = (pre ++ s :: tl) ++ [y] := by simp
      rw [e, hml, List.getElem?_concat_length])
     have HML := Lib.hid hml
     clear hml hmp
     have HBL : Hid (blkB T (tl ++ [y]) x = (decide (clsT T y = 0) || decide (clsT T x ≤ clsT T y))) := Lib.hid blkB_last
     by_cases h1 : clsT T y = 0
     ·
      have hbl : blkB T (tl ++ [y]) x = true := by rw [HBL.out, decide_eq_true h1]; rfl
      have e1 : (clsT T y == 0) = true := by rw [beq_iff_eq]; exact h1
      clear h1 HBL
      have HNX : Hid (V = if clsT T x = 0 then frmGo T (pre ++ s :: (tl ++ [y])) (some x) [] (l.drop (k + 1)) else frmGo T pre (some s) (tl ++ [y] ++ [x]) (l.drop (k + 1))) := Lib.hid (by rw [HRX.out, frmGo, hbl, if_pos rfl])
      clear hbl
      by_cases hk : clsT T x = 0
      ·
       have HF : Hid (V = frmGo T (pre ++ s :: (tl ++ [y])) (some x) ([]) (l.drop (k + 1))) := Lib.hid (HNX.out.trans (if_pos hk))
       have hkb : (clsT T x == 0) = true := by rw [beq_iff_eq]; exact hk
       clear hk HRX HNX
       generalize clsT T x = kx at *
       go_wp2_with fail
       refine HCL.out.mono ?_
       rintro e w3 ⟨rfl, hb3⟩
       have HB3 := Lib.hid (HB.out.trans' hb3)
       have HO3 : Hid (OwnI w3 _ _ _ _ _) := Lib.hid (Own.ext HO.out hb3)
       have hz3 : wr.heap.size ≤ w3.heap.size := hb3.b.size
       have HBX : Hid (∀ (w' : World), Ext w1 w' → ∀ k : Nat, w'.cell? ⟨w.heap.size, k, none⟩ = t.v.cells[k]?) := Lib.hid fun w' hw' => box_at (HB1.out.trans' hw')
       clear hb3 rT hcx
       have rT : ∀ yy : ExtW w3, ∀ k : Nat, yy.w.cell? ⟨w.heap.size, k, none⟩ = t.v.cells[k]? := fun yy => HBX.out _ (HB3.out.trans' yy.h)
       have rX : ∀ yy : ExtW w3, yy.w.cell? ⟨g, m, none⟩ = some (.int .i64 y) := ext_cell (OwnI.cell HO3.out m y HXY.out)
       go_wp2_with fail
       refine region_ext (by kernel_rfl) (by kernel_rfl) ?_
       repeat (go_big_quiet_step ((go_at_call 66; exact quiet_ext (class_spec t T y _ (HT.out.ext_ (HB1.out.trans' (HB3.out.trans' (ExtW.h _)))) HS.out))))
       refine wpQuiet_nil ?_
       rintro _ ⟨xw, rfl⟩
       obtain ⟨wy, hwy⟩ : ∃ wy : World, wy = xw.w := ⟨_, rfl⟩
       have HOY : Hid (OwnI wy _ _ _ _ _) := Lib.hid (by rw [hwy]; exact Own.ext HO3.out xw.h)
       have HBY : Hid (Ext w1 wy) := Lib.hid (by rw [hwy]; exact HB3.out.trans' xw.h)
       rw [← hwy]
       clear hwy rT rX
       have r3 : wy.cell? ⟨g, pre.length, none⟩ = some (.int .i64 s) := OwnI.cell HOY.out pre.length s (by simp)
       have HOZ := HOY
       have HBZ := HBY
       have hz4 := HBY.out.b.size
       have hx4 : Ext wy (wy.alloc (.cells #[.int .i64 x] 3)) := (Ext.refl _).alloc_ _
       obtain ⟨A5, c5, w5, hrun, hown5, hgr5, _⟩ := append_ints (Own.ext HOZ.out hx4) (one_int wy x) (by omega) (by have h' := HBZ.out.b.size; simp; omega)
       have HO5 := Lib.hid hown5
       have HB5 : Hid (Ext w1 w5) := Lib.hid (ext_of_grown (HBZ.out.trans' hx4) hgr5 (fun k hk => (Own.lt HOZ.out k hk).1))
       clear hown5 hgr5 hx4
       go_wp2_with (at_builtin; refine wpList_run_append rfl _ _ _ rfl _ _ rfl rfl _ _ hrun ?_)
       go_roundg gk'
       case measure => omega
       case rel => exact ⟨k + 1, A5, (m + 1) + 1, c5, pre ++ s :: (tl ++ [y]), [], some x, by omega, by go_num, rfl, (by show Value.int .i64 ((((m + 1) : Nat)) : Int) = Value.int .i64 (((pre ++ s :: (tl ++ [y])).length : Nat) : Int); rw [HN.out]; simp), Lib.hid (by simpa using HO5.out), HB5, HF, Lib.hid (by intro h; cases h), Lib.hid (by omega)⟩
      ·
       have HF : Hid (V = frmGo T (pre) (some s) ((tl ++ [y]) ++ [x]) (l.drop (k + 1))) := Lib.hid (HNX.out.trans (if_neg hk))
       have hkb : (clsT T x == 0) = false := by rw [beq_eq_false_iff_ne]; exact hk
       clear hk HRX HNX
       generalize clsT T x = kx at *
       go_wp2_with fail
       refine HCL.out.mono ?_
       rintro e w3 ⟨rfl, hb3⟩
       have HB3 := Lib.hid (HB.out.trans' hb3)
       have HO3 : Hid (OwnI w3 _ _ _ _ _) := Lib.hid (Own.ext HO.out hb3)
       have hz3 : wr.heap.size ≤ w3.heap.size := hb3.b.size
       have HBX : Hid (∀ (w' : World), Ext w1 w' → ∀ k : Nat, w'.cell? ⟨w.heap.size, k, none⟩ = t.v.cells[k]?) := Lib.hid fun w' hw' => box_at (HB1.out.trans' hw')
       clear hb3 rT hcx
       have rT : ∀ yy : ExtW w3, ∀ k : Nat, yy.w.cell? ⟨w.heap.size, k, none⟩ = t.v.cells[k]? := fun yy => HBX.out _ (HB3.out.trans' yy.h)
       have rX : ∀ yy : ExtW w3, yy.w.cell? ⟨g, m, none⟩ = some (.int .i64 y) := ext_cell (OwnI.cell HO3.out m y HXY.out)
       go_wp2_with fail
       refine region_ext (by kernel_rfl) (by kernel_rfl) ?_
       repeat (go_big_quiet_step ((go_at_call 66; exact quiet_ext (class_spec t T y _ (HT.out.ext_ (HB1.out.trans' (HB3.out.trans' (ExtW.h _)))) HS.out))))
       refine wpQuiet_nil ?_
       rintro _ ⟨xw, rfl⟩
       obtain ⟨wy, hwy⟩ : ∃ wy : World, wy = xw.w := ⟨_, rfl⟩
       have HOY : Hid (OwnI wy _ _ _ _ _) := Lib.hid (by rw [hwy]; exact Own.ext HO3.out xw.h)
       have HBY : Hid (Ext w1 wy) := Lib.hid (by rw [hwy]; exact HB3.out.trans' xw.h)
       rw [← hwy]
       clear hwy rT rX
       have r3 : wy.cell? ⟨g, pre.length, none⟩ = some (.int .i64 s) := OwnI.cell HOY.out pre.length s (by simp)
       have HOZ := HOY
       have HBZ := HBY
       have hz4 := HBY.out.b.size
       have hx4 : Ext wy (wy.alloc (.cells #[.int .i64 x] 3)) := (Ext.refl _).alloc_ _
       obtain ⟨A5, c5, w5, hrun, hown5, hgr5, _⟩ := append_ints (Own.ext HOZ.out hx4) (one_int wy x) (by omega) (by have h' := HBZ.out.b.size; simp; omega)
       have HO5 := Lib.hid hown5
       have HB5 : Hid (Ext w1 w5) := Lib.hid (ext_of_grown (HBZ.out.trans' hx4) hgr5 (fun k hk => (Own.lt HOZ.out k hk).1))
       clear hown5 hgr5 hx4
       go_wp2_with (at_builtin; refine wpList_run_append rfl _ _ _ rfl _ _ rfl rfl _ _ hrun ?_)
       go_roundg gk'
       case measure => omega
       case rel => exact ⟨k + 1, A5, (m + 1) + 1, c5, pre, (tl ++ [y]) ++ [x], some s, by omega, by go_num, rfl, rfl, Lib.hid (by simpa using HO5.out), HB5, HF, Lib.hid (by intro h; cases h), Lib.hid (by omega)⟩
     ·
      have e1 : (clsT T y == 0) = false := by rw [beq_eq_false_iff_ne]; exact h1
      by_cases h2 : clsT T x ≤ clsT T y
      ·
       have hbl : blkB T (tl ++ [y]) x = true := by rw [HBL.out, decide_eq_true h2, Bool.or_true]
       have e2 : decide (clsT T x ≤ clsT T y) = true := decide_eq_true h2
       clear h1 h2 HBL
       have HNX : Hid (V = if clsT T x = 0 then frmGo T (pre ++ s :: (tl ++ [y])) (some x) [] (l.drop (k + 1)) else frmGo T pre (some s) (tl ++ [y] ++ [x]) (l.drop (k + 1))) := Lib.hid (by rw [HRX.out, frmGo, hbl, if_pos rfl])
       clear hbl
       by_cases hk : clsT T x = 0
       ·
        have HF : Hid (V = frmGo T (pre ++ s :: (tl ++ [y])) (some x) ([]) (l.drop (k + 1))) := Lib.hid (HNX.out.trans (if_pos hk))
        have hkb : (clsT T x == 0) = true := by rw [beq_iff_eq]; exact hk
        clear hk HRX HNX
        generalize clsT T x = kx at *
        go_wp2_with fail
        refine HCL.out.mono ?_
        rintro e w3 ⟨rfl, hb3⟩
        have HB3 := Lib.hid (HB.out.trans' hb3)
        have HO3 : Hid (OwnI w3 _ _ _ _ _) := Lib.hid (Own.ext HO.out hb3)
        have hz3 : wr.heap.size ≤ w3.heap.size := hb3.b.size
        have HBX : Hid (∀ (w' : World), Ext w1 w' → ∀ k : Nat, w'.cell? ⟨w.heap.size, k, none⟩ = t.v.cells[k]?) := Lib.hid fun w' hw' => box_at (HB1.out.trans' hw')
        clear hb3 rT hcx
        have rT : ∀ yy : ExtW w3, ∀ k : Nat, yy.w.cell? ⟨w.heap.size, k, none⟩ = t.v.cells[k]? := fun yy => HBX.out _ (HB3.out.trans' yy.h)
        have rX : ∀ yy : ExtW w3, yy.w.cell? ⟨g, m, none⟩ = some (.int .i64 y) := ext_cell (OwnI.cell HO3.out m y HXY.out)
        go_wp2_with fail
        refine region_ext (by kernel_rfl) (by kernel_rfl) ?_
        repeat (go_big_quiet_step ((go_at_call 66; exact quiet_ext (class_spec t T y _ (HT.out.ext_ (HB1.out.trans' (HB3.out.trans' (ExtW.h _)))) HS.out))))
        refine wpQuiet_nil ?_
        rintro _ ⟨xw, rfl⟩
        obtain ⟨wy, hwy⟩ : ∃ wy : World, wy = xw.w := ⟨_, rfl⟩
        have HOY : Hid (OwnI wy _ _ _ _ _) := Lib.hid (by rw [hwy]; exact Own.ext HO3.out xw.h)
        have HBY : Hid (Ext w1 wy) := Lib.hid (by rw [hwy]; exact HB3.out.trans' xw.h)
        rw [← hwy]
        clear hwy rT rX
        have r3 : wy.cell? ⟨g, pre.length, none⟩ = some (.int .i64 s) := OwnI.cell HOY.out pre.length s (by simp)
        have HOZ := HOY
        have HBZ := HBY
        have hz4 := HBY.out.b.size
        have hx4 : Ext wy (wy.alloc (.cells #[.int .i64 x] 3)) := (Ext.refl _).alloc_ _
        obtain ⟨A5, c5, w5, hrun, hown5, hgr5, _⟩ := append_ints (Own.ext HOZ.out hx4) (one_int wy x) (by omega) (by have h' := HBZ.out.b.size; simp; omega)
        have HO5 := Lib.hid hown5
        have HB5 : Hid (Ext w1 w5) := Lib.hid (ext_of_grown (HBZ.out.trans' hx4) hgr5 (fun k hk => (Own.lt HOZ.out k hk).1))
        clear hown5 hgr5 hx4
        go_wp2_with (at_builtin; refine wpList_run_append rfl _ _ _ rfl _ _ rfl rfl _ _ hrun ?_)
        go_roundg gk'
        case measure => omega
        case rel => exact ⟨k + 1, A5, (m + 1) + 1, c5, pre ++ s :: (tl ++ [y]), [], some x, by omega, by go_num, rfl, (by show Value.int .i64 ((((m + 1) : Nat)) : Int) = Value.int .i64 (((pre ++ s :: (tl ++ [y])).length : Nat) : Int); rw [HN.out]; simp), Lib.hid (by simpa using HO5.out), HB5, HF, Lib.hid (by intro h; cases h), Lib.hid (by omega)⟩
       ·
        have HF : Hid (V = frmGo T (pre) (some s) ((tl ++ [y]) ++ [x]) (l.drop (k + 1))) := Lib.hid (HNX.out.trans (if_neg hk))
        have hkb : (clsT T x == 0) = false := by rw [beq_eq_false_iff_ne]; exact hk
        clear hk HRX HNX
        generalize clsT T x = kx at *
        go_wp2_with fail
        refine HCL.out.mono ?_
        rintro e w3 ⟨rfl, hb3⟩
        have HB3 := Lib.hid (HB.out.trans' hb3)
        have HO3 : Hid (OwnI w3 _ _ _ _ _) := Lib.hid (Own.ext HO.out hb3)
        have hz3 : wr.heap.size ≤ w3.heap.size := hb3.b.size
        have HBX : Hid (∀ (w' : World), Ext w1 w' → ∀ k : Nat, w'.cell? ⟨w.heap.size, k, none⟩ = t.v.cells[k]?) := Lib.hid fun w' hw' => box_at (HB1.out.trans' hw')
        clear hb3 rT hcx
        have rT : ∀ yy : ExtW w3, ∀ k : Nat, yy.w.cell? ⟨w.heap.size, k, none⟩ = t.v.cells[k]? := fun yy => HBX.out _ (HB3.out.trans' yy.h)
        have rX : ∀ yy : ExtW w3, yy.w.cell? ⟨g, m, none⟩ = some (.int .i64 y) := ext_cell (OwnI.cell HO3.out m y HXY.out)
        go_wp2_with fail
        refine region_ext (by kernel_rfl) (by kernel_rfl) ?_
        repeat (go_big_quiet_step ((go_at_call 66; exact quiet_ext (class_spec t T y _ (HT.out.ext_ (HB1.out.trans' (HB3.out.trans' (ExtW.h _)))) HS.out))))
        refine wpQuiet_nil ?_
        rintro _ ⟨xw, rfl⟩
        obtain ⟨wy, hwy⟩ : ∃ wy : World, wy = xw.w := ⟨_, rfl⟩
        have HOY : Hid (OwnI wy _ _ _ _ _) := Lib.hid (by rw [hwy]; exact Own.ext HO3.out xw.h)
        have HBY : Hid (Ext w1 wy) := Lib.hid (by rw [hwy]; exact HB3.out.trans' xw.h)
        rw [← hwy]
        clear hwy rT rX
        have r3 : wy.cell? ⟨g, pre.length, none⟩ = some (.int .i64 s) := OwnI.cell HOY.out pre.length s (by simp)
        have HOZ := HOY
        have HBZ := HBY
        have hz4 := HBY.out.b.size
        have hx4 : Ext wy (wy.alloc (.cells #[.int .i64 x] 3)) := (Ext.refl _).alloc_ _
        obtain ⟨A5, c5, w5, hrun, hown5, hgr5, _⟩ := append_ints (Own.ext HOZ.out hx4) (one_int wy x) (by omega) (by have h' := HBZ.out.b.size; simp; omega)
        have HO5 := Lib.hid hown5
        have HB5 : Hid (Ext w1 w5) := Lib.hid (ext_of_grown (HBZ.out.trans' hx4) hgr5 (fun k hk => (Own.lt HOZ.out k hk).1))
        clear hown5 hgr5 hx4
        go_wp2_with (at_builtin; refine wpList_run_append rfl _ _ _ rfl _ _ rfl rfl _ _ hrun ?_)
        go_roundg gk'
        case measure => omega
        case rel => exact ⟨k + 1, A5, (m + 1) + 1, c5, pre, (tl ++ [y]) ++ [x], some s, by omega, by go_num, rfl, rfl, Lib.hid (by simpa using HO5.out), HB5, HF, Lib.hid (by intro h; cases h), Lib.hid (by omega)⟩
      ·
       have HBF : Hid (blkB T (tl ++ [y]) x = false) := Lib.hid (by rw [HBL.out, decide_eq_false h1, decide_eq_false h2]; rfl)
       have e2 : decide (clsT T x ≤ clsT T y) = false := decide_eq_false h2
       clear h1 h2 HBL
       cases hpt : pairT T s x with
       | some y2 =>
        have HF : Hid (V = frmGo T pre (some y2) ((tl ++ [y])) (l.drop (k + 1))) := Lib.hid (by rw [HRX.out, frmGo, HBF.out, if_neg (by simp), hpt])
        have HP : Hid (pairV T s x = (y2, true)) := Lib.hid (by rw [pairV, hpt])
        clear hpt HRX
        go_wp2_with fail
        refine HCL.out.mono ?_
        rintro e w3 ⟨rfl, hb3⟩
        have HB3 := Lib.hid (HB.out.trans' hb3)
        have HO3 : Hid (OwnI w3 _ _ _ _ _) := Lib.hid (Own.ext HO.out hb3)
        have hz3 : wr.heap.size ≤ w3.heap.size := hb3.b.size
        have HBX : Hid (∀ (w' : World), Ext w1 w' → ∀ k : Nat, w'.cell? ⟨w.heap.size, k, none⟩ = t.v.cells[k]?) := Lib.hid fun w' hw' => box_at (HB1.out.trans' hw')
        clear hb3 rT hcx
        have rT : ∀ yy : ExtW w3, ∀ k : Nat, yy.w.cell? ⟨w.heap.size, k, none⟩ = t.v.cells[k]? := fun yy => HBX.out _ (HB3.out.trans' yy.h)
        have rX : ∀ yy : ExtW w3, yy.w.cell? ⟨g, m, none⟩ = some (.int .i64 y) := ext_cell (OwnI.cell HO3.out m y HXY.out)
        go_wp2_with fail
        refine region_ext (by kernel_rfl) (by kernel_rfl) ?_
        repeat (go_big_quiet_step ((go_at_call 66; exact quiet_ext (class_spec t T y _ (HT.out.ext_ (HB1.out.trans' (HB3.out.trans' (ExtW.h _)))) HS.out))))
        refine wpQuiet_nil ?_
        rintro _ ⟨xw, rfl⟩
        obtain ⟨wy, hwy⟩ : ∃ wy : World, wy = xw.w := ⟨_, rfl⟩
        have HOY : Hid (OwnI wy _ _ _ _ _) := Lib.hid (by rw [hwy]; exact Own.ext HO3.out xw.h)
        have HBY : Hid (Ext w1 wy) := Lib.hid (by rw [hwy]; exact HB3.out.trans' xw.h)
        rw [← hwy]
        clear hwy rT rX
        have r3 : wy.cell? ⟨g, pre.length, none⟩ = some (.int .i64 s) := OwnI.cell HOY.out pre.length s (by simp)
        go_wp2_with fail
        refine (pair_spec T r s x _ (HPM.out.ext HBY.out)).mono ?_
        rintro e w4 ⟨rfl, hb4⟩
        have HOZ : Hid (OwnI w4 _ _ _ _ _) := Lib.hid (Own.ext HOY.out hb4)
        have HBZ := Lib.hid (HBY.out.trans' hb4)
        have hz4 := hb4.b.size
        clear hb4
        rw [HP.out]
        have r0 : w4.cell? ⟨g, pre.length, none⟩ = some (.int .i64 s) := HOZ.out.cell pre.length s (by simp)
        have f0 : w4.frozen? ⟨g, pre.length, none⟩ = false := HOZ.out.frozen pre.length
        have HO5 := Lib.hid (HOZ.out.set pre.length y2)
        have hgb : w1.heap.size ≤ g := (Own.lt HOZ.out g rfl).1
        have HB5 := Lib.hid (HBZ.out.setCell_ (p := ⟨g, pre.length, none⟩) hgb (.int .i64 y2))
        generalize hpl : pre.length = p at *
        go_wp2_with fail
        go_roundg gk'
        case measure => omega
        case rel => exact ⟨k + 1, some ⟨g, 0, none⟩, m + 1, c2, pre, (tl ++ [y]), some y2, by omega, by go_num, rfl, (by rw [← hpl]; rfl), Lib.hid (by have h5 := HO5.out; rw [← hpl] at h5 ⊢; simpa [List.set_append] using h5), HB5, HF, Lib.hid (by intro h; cases h), Lib.hid (by omega)⟩
       | none =>
        have HNX : Hid (V = if clsT T x = 0 then frmGo T (pre ++ s :: ((tl ++ [y]))) (some x) [] (l.drop (k + 1)) else frmGo T pre (some s) ((tl ++ [y]) ++ [x]) (l.drop (k + 1))) := Lib.hid (by rw [HRX.out, frmGo, HBF.out, if_neg (by simp), hpt])
        have HP : Hid (pairV T s x = (0, false)) := Lib.hid (by rw [pairV, hpt])
        clear hpt
        by_cases hk : clsT T x = 0
        ·
         have HF : Hid (V = frmGo T (pre ++ s :: (tl ++ [y])) (some x) ([]) (l.drop (k + 1))) := Lib.hid (HNX.out.trans (if_pos hk))
         have hkb : (clsT T x == 0) = true := by rw [beq_iff_eq]; exact hk
         clear hk HRX HNX
         generalize clsT T x = kx at *
         go_wp2_with fail
         refine HCL.out.mono ?_
         rintro e w3 ⟨rfl, hb3⟩
         have HB3 := Lib.hid (HB.out.trans' hb3)
         have HO3 : Hid (OwnI w3 _ _ _ _ _) := Lib.hid (Own.ext HO.out hb3)
         have hz3 : wr.heap.size ≤ w3.heap.size := hb3.b.size
         have HBX : Hid (∀ (w' : World), Ext w1 w' → ∀ k : Nat, w'.cell? ⟨w.heap.size, k, none⟩ = t.v.cells[k]?) := Lib.hid fun w' hw' => box_at (HB1.out.trans' hw')
         clear hb3 rT hcx
         have rT : ∀ yy : ExtW w3, ∀ k : Nat, yy.w.cell? ⟨w.heap.size, k, none⟩ = t.v.cells[k]? := fun yy => HBX.out _ (HB3.out.trans' yy.h)
         have rX : ∀ yy : ExtW w3, yy.w.cell? ⟨g, m, none⟩ = some (.int .i64 y) := ext_cell (OwnI.cell HO3.out m y HXY.out)
         go_wp2_with fail
         refine region_ext (by kernel_rfl) (by kernel_rfl) ?_
         repeat (go_big_quiet_step ((go_at_call 66; exact quiet_ext (class_spec t T y _ (HT.out.ext_ (HB1.out.trans' (HB3.out.trans' (ExtW.h _)))) HS.out))))
         refine wpQuiet_nil ?_
         rintro _ ⟨xw, rfl⟩
         obtain ⟨wy, hwy⟩ : ∃ wy : World, wy = xw.w := ⟨_, rfl⟩
         have HOY : Hid (OwnI wy _ _ _ _ _) := Lib.hid (by rw [hwy]; exact Own.ext HO3.out xw.h)
         have HBY : Hid (Ext w1 wy) := Lib.hid (by rw [hwy]; exact HB3.out.trans' xw.h)
         rw [← hwy]
         clear hwy rT rX
         have r3 : wy.cell? ⟨g, pre.length, none⟩ = some (.int .i64 s) := OwnI.cell HOY.out pre.length s (by simp)
         go_wp2_with fail
         refine (pair_spec T r s x _ (HPM.out.ext HBY.out)).mono ?_
         rintro e w4 ⟨rfl, hb4⟩
         have HOZ : Hid (OwnI w4 _ _ _ _ _) := Lib.hid (Own.ext HOY.out hb4)
         have HBZ := Lib.hid (HBY.out.trans' hb4)
         have hz4 := hb4.b.size
         clear hb4
         rw [HP.out]
         have hx4 : Ext w4 (w4.alloc (.cells #[.int .i64 x] 3)) := (Ext.refl _).alloc_ _
         obtain ⟨A5, c5, w5, hrun, hown5, hgr5, _⟩ := append_ints (Own.ext HOZ.out hx4) (one_int w4 x) (by omega) (by have h' := HBZ.out.b.size; simp; omega)
         have HO5 := Lib.hid hown5
         have HB5 : Hid (Ext w1 w5) := Lib.hid (ext_of_grown (HBZ.out.trans' hx4) hgr5 (fun k hk => (Own.lt HOZ.out k hk).1))
         clear hown5 hgr5 hx4
         go_wp2_with (at_builtin; refine wpList_run_append rfl _ _ _ rfl _ _ rfl rfl _ _ hrun ?_)
         go_roundg gk'
         case measure => omega
         case rel => exact ⟨k + 1, A5, (m + 1) + 1, c5, pre ++ s :: (tl ++ [y]), [], some x, by omega, by go_num, rfl, (by show Value.int .i64 ((((m + 1) : Nat)) : Int) = Value.int .i64 (((pre ++ s :: (tl ++ [y])).length : Nat) : Int); rw [HN.out]; simp), Lib.hid (by simpa using HO5.out), HB5, HF, Lib.hid (by intro h; cases h), Lib.hid (by omega)⟩
        ·
         have HF : Hid (V = frmGo T (pre) (some s) ((tl ++ [y]) ++ [x]) (l.drop (k + 1))) := Lib.hid (HNX.out.trans (if_neg hk))
         have hkb : (clsT T x == 0) = false := by rw [beq_eq_false_iff_ne]; exact hk
         clear hk HRX HNX
         generalize clsT T x = kx at *
         go_wp2_with fail
         refine HCL.out.mono ?_
         rintro e w3 ⟨rfl, hb3⟩
         have HB3 := Lib.hid (HB.out.trans' hb3)
         have HO3 : Hid (OwnI w3 _ _ _ _ _) := Lib.hid (Own.ext HO.out hb3)
         have hz3 : wr.heap.size ≤ w3.heap.size := hb3.b.size
         have HBX : Hid (∀ (w' : World), Ext w1 w' → ∀ k : Nat, w'.cell? ⟨w.heap.size, k, none⟩ = t.v.cells[k]?) := Lib.hid fun w' hw' => box_at (HB1.out.trans' hw')
         clear hb3 rT hcx
         have rT : ∀ yy : ExtW w3, ∀ k : Nat, yy.w.cell? ⟨w.heap.size, k, none⟩ = t.v.cells[k]? := fun yy => HBX.out _ (HB3.out.trans' yy.h)
         have rX : ∀ yy : ExtW w3, yy.w.cell? ⟨g, m, none⟩ = some (.int .i64 y) := ext_cell (OwnI.cell HO3.out m y HXY.out)
         go_wp2_with fail
         refine region_ext (by kernel_rfl) (by kernel_rfl) ?_
         repeat (go_big_quiet_step ((go_at_call 66; exact quiet_ext (class_spec t T y _ (HT.out.ext_ (HB1.out.trans' (HB3.out.trans' (ExtW.h _)))) HS.out))))
         refine wpQuiet_nil ?_
         rintro _ ⟨xw, rfl⟩
         obtain ⟨wy, hwy⟩ : ∃ wy : World, wy = xw.w := ⟨_, rfl⟩
         have HOY : Hid (OwnI wy _ _ _ _ _) := Lib.hid (by rw [hwy]; exact Own.ext HO3.out xw.h)
         have HBY : Hid (Ext w1 wy) := Lib.hid (by rw [hwy]; exact HB3.out.trans' xw.h)
         rw [← hwy]
         clear hwy rT rX
         have r3 : wy.cell? ⟨g, pre.length, none⟩ = some (.int .i64 s) := OwnI.cell HOY.out pre.length s (by simp)
         go_wp2_with fail
         refine (pair_spec T r s x _ (HPM.out.ext HBY.out)).mono ?_
         rintro e w4 ⟨rfl, hb4⟩
         have HOZ : Hid (OwnI w4 _ _ _ _ _) := Lib.hid (Own.ext HOY.out hb4)
         have HBZ := Lib.hid (HBY.out.trans' hb4)
         have hz4 := hb4.b.size
         clear hb4
         rw [HP.out]
         have hx4 : Ext w4 (w4.alloc (.cells #[.int .i64 x] 3)) := (Ext.refl _).alloc_ _
         obtain ⟨A5, c5, w5, hrun, hown5, hgr5, _⟩ := append_ints (Own.ext HOZ.out hx4) (one_int w4 x) (by omega) (by have h' := HBZ.out.b.size; simp; omega)
         have HO5 := Lib.hid hown5
         have HB5 : Hid (Ext w1 w5) := Lib.hid (ext_of_grown (HBZ.out.trans' hx4) hgr5 (fun k hk => (Own.lt HOZ.out k hk).1))
         clear hown5 hgr5 hx4
         go_wp2_with (at_builtin; refine wpList_run_append rfl _ _ _ rfl _ _ rfl rfl _ _ hrun ?_)
         go_roundg gk'
         case measure => omega
         case rel => exact ⟨k + 1, A5, (m + 1) + 1, c5, pre, (tl ++ [y]) ++ [x], some s, by omega, by go_num, rfl, rfl, Lib.hid (by simpa using HO5.out), HB5, HF, Lib.hid (by intro h; cases h), Lib.hid (by omega)⟩
  ·have HF : Hid (V = pre ++ st.toList ++ tail) := Lib.hid (by rw [HR.out, drop_all l k (by omega), frm_e])
   have HI2 : Hid (IntS wr ⟨A2, n2, c2⟩ V) := Lib.hid (by rw [HF.out]; exact OwnI.ints HO.out)
   have hx := hba.trans' HBW.out
   have HFB : Hid (∀ b, blkOf A2 = some b → w.heap.size ≤ b) := Lib.hid (fun b hb => by have h1 := (HO.out.lt b hb).1; have h2 := (hba.trans' HB1.out).b.size; omega)
   go_wp2_with fail
   go_ret
   exact ⟨_, _, _, rfl, HI2.out, hx, HFB.out⟩
theorem cform_spec (T : Tbl) (hw : wfB T = true) (t : TV) (l : List Int) (A : Option Addr) (n c : Nat) (w : World) (ht : TblS w t T) (hi : IntS w ⟨A, n, c⟩ l) (hl : l.length ≤ 1000000000) :
  Calls Tryz.prog 57 #[t.v, .slice A n c] w fun e w' => ∃ B m d, e = .returned (.slice B m d) ∧ IntS w' ⟨B, m, d⟩ (frmT T l) ∧ Ext w w' :=
 (cform_own T hw t l A n c w ht hi hl).mono fun _ _ ⟨B, m, d, h1, h2, h3, _⟩ => ⟨B, m, d, h1, h2, h3⟩
end Go.Proofs.YtbdabjhankgcmaaGreatDoor
