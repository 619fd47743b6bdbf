/- The law JoinerNone. -/
import Derived.Test.YtgfdecfcbnnemaaDoorLj
import Derived.Test.YtgfdecfcbnnemaaDoorLa
import Derived.Test.YtgfdecfcbnnemaaDoorKt2
import Derived.Test.YtgfdecfcbnnemaaDoorMw
import Derived.Test.YtgfdecfcbnnemaaDoorPj
namespace Go.Proofs.YtgfdecfcbnnemaaDoor
open Go.RowKit

def noJoin (c : Int) : Bool := !(c == 8205) && !(c == 8204)
theorem jchk_none (T : Tbl) (l : List Int) (h : ∀ c ∈ l, noJoin c = true) : ∀ n i, i + n ≤ l.length → jchk T l n i = (0, 0)
  | 0, _, _ => rfl
  | n + 1, i, hi => by
    have hc := h (l[i]'(by omega)) (List.getElem_mem _)
    have hj : jper T l i = true := by
      rw [jper, if_pos]
      rw [getD_lt l i 0 (by omega)]
      unfold noJoin at hc
      rw [Bool.and_comm]; exact hc
    rw [jchk, if_pos hj]
    exact jchk_none T l h n (i + 1) (by omega)
theorem none_law (l m : List Int) : jcheck (madeT l) ((joiningL m).filter noJoin) = (0, 0) := by
  have hlen := joiningL_len m
  have hfl := List.length_filter_le noJoin (joiningL m)
  have hord : ordErr (madeT l) ((joiningL m).filter noJoin) = 0 := ord_ok (made_wf l) (by omega) (fun c hc => joinL_scal c (joinGo_mem _ _ c (show c ∈ joinGo _ _ from (List.mem_filter.1 hc).1)))
  rw [jcheck, if_pos hord]
  exact jchk_none _ _ (fun c hc => (List.mem_filter.1 hc).2) _ 0 (by omega)

def NLoop (wb : World) (L : List Int) (gh : Nat) (s6 s18 : Value) (wx : World) : Prop :=
  ∃ (k : Nat) (A : Option Addr) (c : Nat) (acc : List Int), k + gh = L.length ∧ s18 = .int .i64 k ∧ s6 = .slice A acc.length c ∧ OwnI wx wb.heap.size A acc.length c acc ∧ Ext wb wx ∧ Hid (L.filter noJoin = acc ++ (L.drop k).filter noJoin) ∧ acc.length ≤ k

set_option maxHeartbeats 1600000 in
set_option maxRecDepth 100000 in
theorem none_spec (l m : List Int) (A : Option Addr) (n c : Nat) (A2 : Option Addr) (n2 c2 : Nat) (w : World) (h : IntS w ⟨A, n, c⟩ l) (h2 : IntS w ⟨A2, n2, c2⟩ m) (hg : Glob w) :
    Calls Tryd.prog 5 #[.slice A n c, .slice A2 n2 c2] w fun e w' => e = .returned (.bool true) ∧ Ext w w' := by
  have HG := Lib.hid hg
  have HM := Lib.hid h2
  have HL := Lib.hid h
  have hll := joiningL_len m
  clear hg h h2
  go_enter Tryd.func5, Tryd.ntmps5
  go_wp2_with fail
  refine Calls.mono (tables_spec l A n c w HL.out HG.out) ?_
  rintro e w1 ⟨t, rfl, ht, hb1⟩
  have hx1 : Ext w1 (w1.alloc (.cells t.v.cells 26)) := (Ext.refl _).alloc_ _
  have HT := Lib.hid (ht.ext_ hx1)
  have hb01 := hb1.trans' hx1
  clear ht
  go_wp2_with fail
  refine Calls.mono (ljoining_spec m A2 n2 c2 _ (HM.out.ext hb01)) ?_
  rintro e w2 ⟨A3, n3, c3, rfl, hi3, hb2⟩
  have rT : ∀ k : Nat, w2.cell? ⟨w1.heap.size, k, none⟩ = t.v.cells[k]? := box_at hb2
  have HRT := Lib.hid rT
  have HT2 := Lib.hid (HT.out.ext_ hb2)
  have hb02 := hb01.trans' hb2
  have hz2 : w1.heap.size < w2.heap.size := by have h' := hb2.b.size; simp at h'; omega
  have hn3 := hi3.len.1
  subst hn3
  have HI3 := Lib.hid hi3
  have HB02 := Lib.hid hb02
  have HP := Lib.hid (none_law l m)
  generalize joiningL m = L at *
  clear hi3 hb01 hb02 hb1 hb2 hx1 HT rT
  go_wp2_with fail
  go_loopg [6, 18] L.length (fun gh s6 s18 wx => NLoop w2 L gh s6 s18 wx)
  case atStart => exact ⟨0, none, 0, [], by omega, rfl, rfl, Own.nil_ _ _ _ _, Ext.refl _, Lib.hid rfl, Nat.le_refl _⟩
  case round =>
    obtain ⟨k, A6, c6, acc, hkg, rfl, rfl, hown, hbx, HR, hla⟩ := hrel
    have HO := Lib.hid hown
    have HBX := Lib.hid hbx
    clear hown hbx
    by_cases hlt : k < L.length
    · obtain ⟨gk', rfl⟩ : ∃ g', gk = g' + 1 := ⟨gk - 1, by omega⟩
      obtain ⟨b, o, ha, hc⟩ := (HI3.out.ext HBX.out).at_ hlt
      subst ha
      have HD : Hid (L.drop k = L[k] :: L.drop (k + 1)) := drop_at L k hlt
      generalize L[k] = x at *
      have hk0 : (0 : Int) ≤ (k : Int) := Int.natCast_nonneg _
      have hk1 : (k : Int) < (L.length : Int) := by omega
      obtain ⟨wo, rfl⟩ : ∃ wo : World, wo = wr := ⟨_, rfl⟩
      by_cases hx : x = 8205 ∨ x = 8204
      · have HF : Hid (noJoin x = false) := Lib.hid (by rcases hx with rfl | rfl <;> rfl)
        have HR1 : Hid (L.filter noJoin = acc ++ (L.drop (k + 1)).filter noJoin) := Lib.hid (by rw [HR.out, HD.out, List.filter_cons_of_neg (by rw [HF.out]; simp)])
        rcases hx with rfl | rfl
        all_goals
          go_wp2_with fail
          go_roundg gk'
          case measure => omega
          case rel => exact ⟨k + 1, A6, c6, acc, by omega, by go_num, rfl, HO.out, HBX.out, HR1, by omega⟩
      · simp only [not_or] at hx
        have e1 : (x != 8205) = true := by rw [bne_iff_ne]; exact hx.1
        have e2 : (x != 8204) = true := by rw [bne_iff_ne]; exact hx.2
        have HF : Hid (noJoin x = true) := Lib.hid (by unfold noJoin; rw [beq_eq_false_iff_ne.2 hx.1, beq_eq_false_iff_ne.2 hx.2]; rfl)
        have HR1 : Hid (L.filter noJoin = (acc ++ [x]) ++ (L.drop (k + 1)).filter noJoin) := Lib.hid (by rw [HR.out, HD.out, List.filter_cons_of_pos HF.out]; simp)
        have hx4 : Ext wo (wo.alloc (.cells #[.int .i64 x] 3)) := (Ext.refl _).alloc_ _
        obtain ⟨A5, c5, w5, hrun, hown5, hgr5, hat5⟩ := append_ints (Own.ext HO.out hx4) (one_int wo x) (by omega) (by have h' := HBX.out.b.size; simp; omega)
        have HO5 := Lib.hid hown5
        have HB5 : Hid (Ext w2 w5) := Lib.hid (ext_of_grown (HBX.out.trans' hx4) hgr5 (fun k hk => (Own.lt HO.out k hk).1))
        clear hx hown5 hgr5 hat5 hx4
        go_wp2_with (at_builtin; refine wpList_run_append rfl _ _ _ rfl _ _ rfl rfl _ _ hrun ?_)
        go_roundg gk'
        case measure => omega
        case rel => exact ⟨k + 1, A5, c5, acc ++ [x], by omega, by go_num, by simp, by simpa using HO5.out, HB5.out, HR1, by simp; omega⟩
    · have HF : Hid (acc = L.filter noJoin) := Lib.hid (by rw [HR.out, drop_all L k (by omega)]; simp)
      have hbx := HBX.out
      have rT : ∀ k : Nat, wr.cell? ⟨w1.heap.size, k, none⟩ = t.v.cells[k]? := fun k => (hbx.b.cell (p := ⟨w1.heap.size, k, none⟩) hz2).trans (HRT.out k)
      clear hbx
      go_wp2_with fail
      refine (jcheck_spec t (madeT l) acc A6 _ c6 wr (HT2.out.ext_ HBX.out) (OwnI.ints HO.out)).mono ?_
      rintro e w6 ⟨rfl, hb6⟩
      rw [HF.out, HP.out]
      have hb06 := (HB02.out.trans' HBX.out).trans' hb6
      clear rT hb6
      go_wp2_with fail
      refine (awake_spec w6 (HG.out.ext hb06)).mono ?_
      rintro e w7 ⟨rfl, hb7⟩
      go_wp2_with fail
      go_ret
      exact ⟨rfl, hb06.trans' hb7⟩
end Go.Proofs.YtgfdecfcbnnemaaDoor
