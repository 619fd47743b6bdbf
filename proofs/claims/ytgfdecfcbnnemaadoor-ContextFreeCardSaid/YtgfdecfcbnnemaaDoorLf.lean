/- The law ContextFree. -/
import Derived.Test.YtgfdecfcbnnemaaDoorSp
import Derived.Test.YtgfdecfcbnnemaaDoorKt2
import Derived.Test.YtgfdecfcbnnemaaDoorR
namespace Go.Proofs.YtgfdecfcbnnemaaDoor
open Go.RowKit

def noCtx (c : Int) : Bool := !ctxIs c
def FLoop (wb : World) (L : List Int) (gh : Nat) (s6 s20 : Value) (wx : World) : Prop :=
  ∃ (k : Nat) (A : Option Addr) (c : Nat) (acc : List Int), k + gh = L.length ∧ s20 = .int .i64 k ∧ s6 = .slice A acc.length c ∧ OwnI wx wb.heap.size A acc.length c acc ∧ Ext wb wx ∧ Hid (L.filter noCtx = acc ++ (L.drop k).filter noCtx) ∧ acc.length ≤ k
def FLoop2 (wb : World) (n gh : Nat) (s40 : Value) (wx : World) : Prop := ∃ k : Nat, k + gh = n ∧ s40 = .int .i64 k ∧ Ext wb wx

set_option maxHeartbeats 1600000 in
set_option maxRecDepth 100000 in
theorem free_spec (l m : List Int) (A : Option Addr) (n c : Nat) (A2 : Option Addr) (n2 c2 : Nat) (w : World) (h : IntS w ⟨A, n, c⟩ l) (h2 : IntS w ⟨A2, n2, c2⟩ m) (hg : Glob w) :
    Calls Tryd.prog 6 #[.slice A n c, .slice A2 n2 c2] w fun e w' => e = .returned (.bool true) ∧ Ext w w' := by
  have HG := Lib.hid hg
  have HM := Lib.hid h2
  have HL := Lib.hid h
  have hll := specialL_len m
  clear hg h h2
  go_enter Tryd.func6, Tryd.ntmps6
  go_wp2_with fail
  refine Calls.mono (tables_spec l A n c w HL.out HG.out) ?_
  rintro e w1 ⟨t, rfl, ht, hb1⟩
  have hx1 : Ext w1 (w1.alloc (.cells t.v.cells 26)) := (Ext.refl _).alloc_ _
  have HT := Lib.hid (ht.ext_ hx1)
  have hb01 := hb1.trans' hx1
  clear ht
  go_wp2_with fail
  refine Calls.mono (special_spec m A2 n2 c2 _ (HM.out.ext hb01)) ?_
  rintro e w2 ⟨A3, n3, c3, rfl, hi3, hb2⟩
  have rT : ∀ k : Nat, w2.cell? ⟨w1.heap.size, k, none⟩ = t.v.cells[k]? := box_at hb2
  have HRT := Lib.hid rT
  have HT2 := Lib.hid (HT.out.ext_ hb2)
  have hb02 := hb01.trans' hb2
  have hz2 : w1.heap.size < w2.heap.size := by have h' := hb2.b.size; simp at h'; omega
  have hn3 := hi3.len.1
  subst hn3
  have HI3 := Lib.hid hi3
  have HB02 := Lib.hid hb02
  have HP : Hid (ccheck (madeT l) ((specialL m).filter noCtx) = (0, 0)) := Lib.hid (free_law l m)
  generalize specialL m = L at *
  generalize madeT l = T at *
  clear hi3 hb01 hb02 hb1 hb2 hx1 HT rT
  go_wp2_with fail
  go_loopg [6, 20] L.length (fun gh s6 s20 wx => FLoop w2 L gh s6 s20 wx)
  case atStart => exact ⟨0, none, 0, [], by omega, rfl, rfl, Own.nil_ _ _ _ _, Ext.refl _, Lib.hid rfl, Nat.le_refl _⟩
  case round =>
    obtain ⟨k, A6, c6, acc, hkg, rfl, rfl, hown, hbx, HR, hla⟩ := hrel
    have HO := Lib.hid hown
    have HBX := Lib.hid hbx
    clear hown hbx
    by_cases hlt : k < L.length
    · obtain ⟨gk', rfl⟩ : ∃ g', gk = g' + 1 := ⟨gk - 1, by omega⟩
      obtain ⟨b, o, ha, hc⟩ := (HI3.out.ext HBX.out).at_ hlt
      subst ha
      have HD : Hid (L.drop k = L[k] :: L.drop (k + 1)) := drop_at L k hlt
      generalize L[k] = x at *
      have hk0 : (0 : Int) ≤ (k : Int) := Int.natCast_nonneg _
      have hk1 : (k : Int) < (L.length : Int) := by omega
      obtain ⟨wo, rfl⟩ : ∃ wo : World, wo = wr := ⟨_, rfl⟩
      cases hx : ctxIs x
      · have HX := Lib.hid hx
        have HR1 : Hid (L.filter noCtx = (acc ++ [x]) ++ (L.drop (k + 1)).filter noCtx) := Lib.hid (by rw [HR.out, HD.out, List.filter_cons_of_pos (by unfold noCtx; rw [HX.out]; rfl)]; simp)
        have hx4 : Ext wo (wo.alloc (.cells #[.int .i64 x] 3)) := (Ext.refl _).alloc_ _
        obtain ⟨A5, c5, w5, hrun, hown5, hgr5, hat5⟩ := append_ints (Own.ext HO.out hx4) (one_int wo x) (by omega) (by have h' := HBX.out.b.size; simp; omega)
        have HO5 := Lib.hid hown5
        have HB5 : Hid (Ext w2 w5) := Lib.hid (ext_of_grown (HBX.out.trans' hx4) hgr5 (fun k hk => (Own.lt HO.out k hk).1))
        clear hx hown5 hgr5 hat5 hx4
        go_wp2_with (first
          | (go_at_call 18; refine (ctxIs_spec x _).mono ?_; rintro e w4 ⟨rfl, rfl⟩; rw [HX.out])
          | (at_builtin; refine wpList_run_append rfl _ _ _ rfl _ _ rfl rfl _ _ hrun ?_))
        go_roundg gk'
        case measure => omega
        case rel => exact ⟨k + 1, A5, c5, acc ++ [x], by omega, by go_num, by simp, by simpa using HO5.out, HB5.out, HR1, by simp; omega⟩
      · have HX := Lib.hid hx
        have HR1 : Hid (L.filter noCtx = acc ++ (L.drop (k + 1)).filter noCtx) := Lib.hid (by rw [HR.out, HD.out, List.filter_cons_of_neg (by unfold noCtx; rw [HX.out]; simp)])
        clear hx
        go_wp2_with (go_at_call 18; refine (ctxIs_spec x _).mono ?_; rintro e w4 ⟨rfl, rfl⟩; rw [HX.out])
        go_roundg gk'
        case measure => omega
        case rel => exact ⟨k + 1, A6, c6, acc, by omega, by go_num, rfl, HO.out, HBX.out, HR1, by omega⟩
    · have HF : Hid (acc = L.filter noCtx) := Lib.hid (by rw [HR.out, drop_all L k (by omega)]; simp)
      have HNO : Hid (∀ x ∈ acc, ctxIs x = false) := Lib.hid (fun x hx => by
        rw [HF.out] at hx
        have := (List.mem_filter.1 hx).2
        simpa [noCtx] using this)
      have hbx := HBX.out
      have rT : ∀ k : Nat, wr.cell? ⟨w1.heap.size, k, none⟩ = t.v.cells[k]? := fun k => (hbx.b.cell (p := ⟨w1.heap.size, k, none⟩) hz2).trans (HRT.out k)
      have hla8 : acc.length < 8 := by omega
      clear hbx hla
      go_wp2_with fail
      refine (ccheck_spec t T acc A6 _ c6 wr (HT2.out.ext_ HBX.out) (OwnI.ints HO.out)).mono ?_
      rintro e w6 ⟨rfl, hb6⟩
      rw [HF.out, HP.out, ← HF.out]
      have HIA : Hid (IntS w6 ⟨A6, acc.length, c6⟩ acc) := Lib.hid ((OwnI.ints HO.out).ext hb6)
      have hb06 := (HB02.out.trans' HBX.out).trans' hb6
      clear rT hb6 HR hlt hkg
      go_wp2_with fail
      go_loopg [40] acc.length (fun gh s40 wx => FLoop2 w6 acc.length gh s40 wx)
      case atStart => exact ⟨0, by omega, rfl, Ext.refl _⟩
      case round =>
        obtain ⟨q, hqg, rfl, hbq⟩ := hrel
        by_cases hlt : q < acc.length
        · obtain ⟨gq', rfl⟩ : ∃ g', gk = g' + 1 := ⟨gk - 1, by omega⟩
          have HX : Hid (ctxIs acc[q] = false) := Lib.hid (HNO.out _ (List.getElem_mem _))
          obtain ⟨b, o, ha, hc⟩ := (HIA.out.ext hbq).at_ hlt
          have hk0 : (0 : Int) ≤ (q : Int) := Int.natCast_nonneg _
          have hk1 : (q : Int) < (acc.length : Int) := by omega
          generalize acc[q] = x at *
          subst ha
          go_wp2_with (go_at_call 20; refine (rneeds_spec x _).mono ?_; rintro e w4 ⟨rfl, rfl⟩; rw [HX.out])
          go_roundg gq'
          case measure => omega
          case rel => exact ⟨q + 1, by omega, by go_num, hbq⟩
        · go_wp2_with fail
          refine (cawake_spec _ (HG.out.ext (hb06.trans' hbq))).mono ?_
          rintro e w7 ⟨rfl, hb7⟩
          go_wp2_with fail
          go_ret
          exact ⟨rfl, (hb06.trans' hbq).trans' hb7⟩
end Go.Proofs.YtgfdecfcbnnemaaDoor
