/- The law JoinerMirror. -/
import Derived.Test.YtgfdecfcbnnemaaDoorPj
import Derived.Test.YtgfdecfcbnnemaaDoorLa
import Derived.Test.YtgfdecfcbnnemaaDoorKt2
namespace Go.Proofs.YtgfdecfcbnnemaaDoor
open Go.RowKit

def MiLoop (wb : World) (L : List Int) (gh : Nat) (s9 s10 : Value) (wx : World) : Prop :=
  ∃ (A : Option Addr) (c : Nat) (acc : List Int), gh ≤ L.length ∧ s10 = .int .i64 ((gh : Int) - 1) ∧ s9 = .slice A acc.length c ∧ OwnI wx wb.heap.size A acc.length c acc ∧ Ext wb wx ∧ Hid (acc = (L.drop gh).reverse) ∧ acc.length + gh = L.length

set_option maxHeartbeats 3200000 in
set_option maxRecDepth 100000 in
theorem mirror_spec (l m : List Int) (A : Option Addr) (n c : Nat) (A2 : Option Addr) (n2 c2 : Nat) (i : Int) (w : World) (h : IntS w ⟨A, n, c⟩ l) (h2 : IntS w ⟨A2, n2, c2⟩ m) (hg : Glob w) :
    Calls Tryd.prog 9 #[.slice A n c, .slice A2 n2 c2, .int .i64 i] w fun e w' => e = .returned (.bool true) ∧ Ext w w' := by
  have HG := Lib.hid hg
  have HM := Lib.hid h2
  have HL := Lib.hid h
  have hll := joiningL_len m
  clear hg h h2
  go_enter Tryd.func9, Tryd.ntmps9
  go_wp2_with fail
  refine Calls.mono (tables_spec l A n c w HL.out HG.out) ?_
  rintro e w1 ⟨t, rfl, ht, hb1⟩
  have hx1 : Ext w1 (w1.alloc (.cells t.v.cells 26)) := (Ext.refl _).alloc_ _
  have HT := Lib.hid (ht.ext_ hx1)
  have hb01 := hb1.trans' hx1
  clear ht
  go_wp2_with fail
  refine Calls.mono (ljoining_spec m A2 n2 c2 _ (HM.out.ext hb01)) ?_
  rintro e w2 ⟨A3, n3, c3, rfl, hi3, hb2⟩
  have rT : ∀ k : Nat, w2.cell? ⟨w1.heap.size, k, none⟩ = t.v.cells[k]? := box_at hb2
  have HRT := Lib.hid rT
  have HT2 := Lib.hid (HT.out.ext_ hb2)
  have hb02 := hb01.trans' hb2
  have hz2 : w1.heap.size < w2.heap.size := by have h' := hb2.b.size; simp at h'; omega
  have hn3 := hi3.len.1
  subst hn3
  have HI3 := Lib.hid hi3
  have HB02 := Lib.hid hb02
  have HORD := Lib.hid (joining_ord l m)
  have HORD2 : Hid (ordErr (madeT l) (joiningL m).reverse = 0) := Lib.hid (ord_ok (made_wf l) (by simp; omega) (fun c hc => joining_scal m c (by simpa using hc)))
  generalize joiningL m = L at *
  generalize madeT l = T at *
  clear hi3 hb01 hb02 hb1 hb2 hx1 HT rT
  rcases Nat.eq_zero_or_pos L.length with hz | hpos
  · have HZ := Lib.hid hz
    have e0 : ((L.length : Int) == 0) = true := by rw [beq_iff_eq]; omega
    have e1 : (L.length == 0) = true := by rw [beq_iff_eq]; omega
    clear hz
    go_wp2_with fail
    refine (awake_spec w2 (HG.out.ext HB02.out)).mono ?_
    rintro e w7 ⟨rfl, hb7⟩
    go_wp2_with fail
    go_ret
    exact ⟨rfl, HB02.out.trans' hb7⟩
  · have e0 : ((L.length : Int) == 0) = false := by rw [beq_eq_false_iff_ne]; omega
    have e1 : (L.length == 0) = false := by rw [beq_eq_false_iff_ne]; omega
    have hl0 : (0 : Int) < (L.length : Int) := by omega
    go_wp2_with fail
    go_loopg [9, 10] L.length (fun gh s9 s10 wx => MiLoop w2 L gh s9 s10 wx)
    case atStart => exact ⟨none, 0, [], Nat.le_refl _, by go_num, rfl, Own.nil_ _ _ _ _, Ext.refl _, Lib.hid (by simp), by simp⟩
    case round =>
      obtain ⟨A6, c6, acc, hgl, rfl, rfl, hown, hbx, HR, hla⟩ := hrel
      have HO := Lib.hid hown
      have HBX := Lib.hid hbx
      clear hown hbx
      rcases Nat.eq_zero_or_pos gk with h0 | hgp
      · subst h0
        have HF : Hid (acc = L.reverse) := Lib.hid (by rw [HR.out]; simp)
        have HPB := Lib.hid (pickV_bd i hl0)
        have hpb := HPB.out
        obtain ⟨k, hk⟩ : ∃ k : Nat, pickV i L.length = k := ⟨(pickV i L.length).toNat, (Int.toNat_of_nonneg hpb.1).symm⟩
        have hkl : k < L.length := by rw [hk] at hpb; omega
        have HK := Lib.hid hk
        have HKL := Lib.hid hkl
        have hlen : acc.length = L.length := by omega
        have HML := Lib.hid (mirror_law hkl HORD.out HORD2.out)
        have hk0 : (0 : Int) ≤ (k : Int) := Int.natCast_nonneg _
        have hk1 : (k : Int) < (L.length : Int) := by omega
        obtain ⟨a, ha⟩ : ∃ a, leftV T L k = a := ⟨_, rfl⟩
        obtain ⟨bb, hbb⟩ : ∃ bb, rightV T L.reverse ((L.length : Int) - 1 - k) = bb := ⟨_, rfl⟩
        have hml := HML.out
        rw [ha, hbb] at hml
        have HAa := Lib.hid ha
        have HBb := Lib.hid hbb
        have HML2 := Lib.hid hml
        clear hpb hk ha hbb hml
        go_wp2_with (go_at_call 22; refine (kpick_spec i L.length (by omega) (by omega) _).mono ?_; rintro e w5 ⟨rfl, rfl⟩; rw [HK.out])
        obtain ⟨wo, hwo⟩ : ∃ wo : World, wo = wr := ⟨_, rfl⟩
        rw [← hwo] at HO HBX ⊢
        clear hwo
        have rT : ∀ yy : ExtW wo, ∀ j : Nat, yy.w.cell? ⟨w1.heap.size, j, none⟩ = t.v.cells[j]? := fun yy j => ((HBX.out.trans' yy.h).b.cell (p := ⟨w1.heap.size, j, none⟩) hz2).trans (HRT.out j)
        have HIA : Hid (IntS wo ⟨A6, L.length, c6⟩ L.reverse) := Lib.hid (by have h := OwnI.ints HO.out; rw [hlen, HF.out] at h; exact h)
        have HCL : Hid (∀ yy : ExtW wo, Calls Tryd.prog 23 #[t.v, .slice A3 L.length c3, .int .i64 k] yy.w fun e w'' => e = .returned (.int .i64 a) ∧ Ext yy.w w'') := Lib.hid (fun yy => by
          have h := left_spec t T L A3 _ c3 k yy.w (HT2.out.ext_ (HBX.out.trans' yy.h)) (HI3.out.ext (HBX.out.trans' yy.h))
          rw [HAa.out] at h
          exact h)
        have HCR : Hid (∀ yy : ExtW wo, Calls Tryd.prog 24 #[t.v, .slice A6 L.length c6, .int .i64 ((L.length : Int) - 1 - k)] yy.w fun e w'' => e = .returned (.int .i64 bb) ∧ Ext yy.w w'') := Lib.hid (fun yy => by
          have h := right_spec t T L.reverse A6 _ c6 ((L.length : Int) - 1 - k) yy.w (HT2.out.ext_ (HBX.out.trans' yy.h)) (HIA.out.ext yy.h)
          rw [HBb.out] at h
          exact h)
        clear hkl HR
        go_wp2_with fail
        refine region_ext (by kernel_rfl) (by kernel_rfl) ?_
        repeat (go_big_quiet_step (first
          | (go_at_call 23; with_reducible exact quiet_ext (HCL.out _))
          | (go_at_call 24; with_reducible exact quiet_ext (HCR.out _))))
        refine wpQuiet_nil ?_
        rintro _ ⟨xw, rfl⟩
        have hbx1 := HBX.out.trans' xw.h
        clear rT
        rcases HML2.out with ⟨rfl, rfl⟩ | ⟨ha0, ha1, rfl⟩
        · go_wp2_with fail
          refine (awake_spec xw.w (HG.out.ext (HB02.out.trans' hbx1))).mono ?_
          rintro e w7 ⟨rfl, hb7⟩
          go_wp2_with fail
          go_ret
          exact ⟨rfl, (HB02.out.trans' hbx1).trans' hb7⟩
        · have e2 : (a == -1) = false := by rw [beq_eq_false_iff_ne]; omega
          have e3 : decide (0 ≤ a) = true := by rw [decide_eq_true_eq]; exact ha0
          go_wp2_with fail
          refine (awake_spec xw.w (HG.out.ext (HB02.out.trans' hbx1))).mono ?_
          rintro e w7 ⟨rfl, hb7⟩
          go_wp2_with fail
          go_ret
          exact ⟨rfl, (HB02.out.trans' hbx1).trans' hb7⟩
      · obtain ⟨gk', rfl⟩ : ∃ g', gk = g' + 1 := ⟨gk - 1, by omega⟩
        have hlt : gk' < L.length := by omega
        obtain ⟨b, o, ha, hc⟩ := (HI3.out.ext HBX.out).at_ hlt
        subst ha
        have hsub : ((gk' + 1 : Nat) : Int) - 1 = (gk' : Int) := by omega
        rw [hsub]
        have HR1 : Hid (acc ++ [L[gk']] = (L.drop gk').reverse) := Lib.hid (by rw [HR.out, drop_at L gk' hlt, List.reverse_cons])
        generalize L[gk'] = x at *
        have hk0 : (0 : Int) ≤ (gk' : Int) := Int.natCast_nonneg _
        have hk1 : (gk' : Int) < (L.length : Int) := by omega
        obtain ⟨wo, rfl⟩ : ∃ wo : World, wo = wr := ⟨_, rfl⟩
        have hx4 : Ext wo (wo.alloc (.cells #[.int .i64 x] 3)) := (Ext.refl _).alloc_ _
        obtain ⟨A5, c5, w5, hrun, hown5, hgr5, hat5⟩ := append_ints (Own.ext HO.out hx4) (one_int wo x) (by omega) (by have h' := HBX.out.b.size; simp; omega)
        have HO5 := Lib.hid hown5
        have HB5 : Hid (Ext w2 w5) := Lib.hid (ext_of_grown (HBX.out.trans' hx4) hgr5 (fun k hk => (Own.lt HO.out k hk).1))
        clear hown5 hgr5 hat5 hx4 hsub
        go_wp2_with (at_builtin; refine wpList_run_append rfl _ _ _ rfl _ _ rfl rfl _ _ hrun ?_)
        go_roundg gk'
        case measure => omega
        case rel => exact ⟨A5, c5, acc ++ [x], by omega, by go_num, by simp, by simpa using HO5.out, HB5.out, HR1, by simp; omega⟩
end Go.Proofs.YtgfdecfcbnnemaaDoor
