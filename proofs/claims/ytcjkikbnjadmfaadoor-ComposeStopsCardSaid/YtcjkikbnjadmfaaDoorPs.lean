/- Walk: namedesklaw8.ComposeStops. -/
import Derived.Test.YtcjkikbnjadmfaaDoorGw
import Derived.Test.YtcjkikbnjadmfaaDoorKd
import Derived.Test.YtcjkikbnjadmfaaDoorQ6
import Derived.Test.YtcjkikbnjadmfaaDoorGo
import Derived.Test.YtcjkikbnjadmfaaDoorGx
namespace Go.Proofs.YtcjkikbnjadmfaaDoor
open Go.RowKit

theorem stops_law (l m o : List Int) : nfdErr (madeT l) (denseL m) = 0 ∧ nfdErr (madeT l) (denseL o) = 0 ∧ nfdErr (madeT l) (denseL m ++ [46] ++ denseL o) = 0 ∧
    nfcT (madeT l) (denseL m ++ [46] ++ denseL o) = nfcT (madeT l) (denseL m) ++ [46] ++ nfcT (madeT l) (denseL o) ∧ (nfcT (madeT l) (denseL m)).length ≤ 4096 ∧ (nfcT (madeT l) (denseL o)).length ≤ 4096 := by
  have hw := made_wf l
  have h1 := denseL_len m
  have h2 := denseL_len o
  have z1 := nfd_ok hw (dense_scal m) (by omega)
  have z2 := nfd_ok hw (dense_scal o) (by omega)
  refine ⟨z1, z2, nfd_ok hw (fun c hc => ?_) (by simp; omega), ?_, ?_, ?_⟩
  · simp only [List.mem_append, List.mem_singleton] at hc
    rcases hc with (hc | rfl) | hc
    · exact dense_scal m c hc
    · decide
    · exact dense_scal o c hc
  · simpa using nfc_stop (wfc_of hw) (denseL m) (denseL o)
  · have := (nfd_zero z1).2; have := nfc_len (T := madeT l) (denseL m); omega
  · have := (nfd_zero z2).2; have := nfc_len (T := madeT l) (denseL o); omega

theorem wpList_run_append_g {ops : Array Oper} {rest : List Oper} {o : Oper} {a : Act} {w : World} {Q : Exit → Act → World → Prop} (hw : Region.wanted o (yielded ops a.tmps) = true) (s x : Operand) (t : TypeId)
    (ho : o.op = .call { callee := .builtin .append, args := #[s, x], argTypes := #[t, t] }) (v u : Value) (hs : a.eval s = v) (hx : a.eval x = u) (v' : Value) (w' : World)
    (hrun : ∀ ty, (Builtin.append_ #[t, t] ty #[v, u]).run Tryd.prog w = .ok v' w') (h : wpList Tryd.prog ops Q rest (a.put o.dst v') w') :
    wpList Tryd.prog ops Q (o :: rest) a w := by
  refine wpList_step fun K hK => ?_
  rw [if_pos hw]
  unfold Oper.wp execOp
  simp only [ho, resolve, invoke, builtin, Sem.run_bind, Sem.run_pure, Result.andThen_ok, List.map_toArray, List.map_cons, List.map_nil, hs, hx, hrun]
  exact hK _ _ h

set_option maxHeartbeats 6400000 in
set_option maxRecDepth 100000 in
theorem composeStops_spec (l m o : List Int) (A : Option Addr) (n c : Nat) (A2 : Option Addr) (n2 c2 : Nat) (A4 : Option Addr) (n4 c4 : Nat) (w : World) (h : IntS w ⟨A, n, c⟩ l) (h2 : IntS w ⟨A2, n2, c2⟩ m) (h4 : IntS w ⟨A4, n4, c4⟩ o) (hg : Glob w) :
    Calls Tryd.prog 4 #[.slice A n c, .slice A2 n2 c2, .slice A4 n4 c4] w fun e w' => e = .returned (.bool true) ∧ Ext w w' := by
  have HG := Lib.hid hg
  have HM := Lib.hid h2
  have HO := Lib.hid h4
  have HL := Lib.hid h
  have hlm := denseL_len m
  have hlo := denseL_len o
  clear hg h h2 h4
  go_enter Tryd.func4, Tryd.ntmps4
  go_wp2_with fail
  refine Calls.mono (tables_spec l A n c w HL.out HG.out) ?_
  rintro e w1 ⟨t, rfl, ht, hb1⟩
  have hx1 : Ext w1 (w1.alloc (.cells t.v.cells 26)) := (Ext.refl _).alloc_ _
  have HT := Lib.hid (ht.ext_ hx1)
  have hb01 := hb1.trans' hx1
  clear ht
  go_wp2_with fail
  refine Calls.mono (dense_spec m A2 n2 c2 _ (HM.out.ext hb01)) ?_
  rintro e w2 ⟨A3, n3, c3, rfl, hi3, hb2⟩
  have hn3 := hi3.len.1
  subst hn3
  have HI3 := Lib.hid hi3
  have hb02 := hb01.trans' hb2
  clear hi3
  go_wp2_with fail
  refine Calls.mono (dense_spec o A4 n4 c4 _ (HO.out.ext hb02)) ?_
  rintro e w3 ⟨A5, n5, c5, rfl, hi5, hb3⟩
  have hn5 := hi5.len.1
  subst hn5
  have HI5 := Lib.hid hi5
  have hbx3 := hb2.trans' hb3
  have rT : ∀ k : Nat, w3.cell? ⟨w1.heap.size, k, none⟩ = t.v.cells[k]? := box_at hbx3
  have HRT := Lib.hid rT
  have HT3 := Lib.hid (HT.out.ext_ hbx3)
  have hb03 := hb02.trans' hb3
  have hz3 : w1.heap.size < w3.heap.size := by have h' := hbx3.b.size; simp at h'; omega
  have HI3' := Lib.hid (HI3.out.ext hb3)
  have HB03 := Lib.hid hb03
  have HP := Lib.hid (stops_law l m o)
  generalize denseL m = La at *
  generalize denseL o = Lb at *
  generalize madeT l = T at *
  clear hi5 hb01 hb02 hb03 hb1 hb2 hb3 hbx3 hx1 HT HI3
  go_wp2_with fail
  refine (nfc_spec T t La A3 _ c3 w3 HT3.out HI3'.out).mono ?_
  rintro e w4 ⟨B1, m1, d1, rfl, hb4, hi4⟩
  rw [nfcRes_ok HP.out.1] at hi4
  rw [HP.out.1]
  have hm1 := hi4.len.1
  subst hm1
  have rT4 : ∀ k : Nat, w4.cell? ⟨w1.heap.size, k, none⟩ = t.v.cells[k]? := fun k => (hb4.b.cell (p := ⟨w1.heap.size, k, none⟩) hz3).trans (HRT.out k)
  have HB4 := Lib.hid hb4
  have HI4 := Lib.hid hi4
  clear rT hb4 hi4
  go_wp2_with fail
  refine (nfc_spec T t Lb A5 _ c5 w4 (HT3.out.ext_ HB4.out) (HI5.out.ext HB4.out)).mono ?_
  rintro e w5 ⟨B2, m2, d2, rfl, hb5, hi5⟩
  rw [nfcRes_ok HP.out.2.1] at hi5
  rw [HP.out.2.1]
  have hm2 := hi5.len.1
  subst hm2
  have HB35 := Lib.hid (HB4.out.trans' hb5)
  have HB05 := Lib.hid (HB03.out.trans' HB35.out)
  have HX := Lib.hid (HI4.out.ext hb5)
  have HY := Lib.hid hi5
  clear rT4 hb5 hi5 HB4 HI4
  have HIA := Lib.hid (HI3'.out.ext HB35.out)
  have HIB := Lib.hid (HI5.out.ext HB35.out)
  have HRT5 : Hid (∀ (wx : World), Ext w5 wx → ∀ k : Nat, wx.cell? ⟨w1.heap.size, k, none⟩ = t.v.cells[k]?) := Lib.hid (fun wx hx k => ((HB35.out.trans' hx).b.cell (p := ⟨w1.heap.size, k, none⟩) hz3).trans (HRT.out k))
  have hz15 : w1.heap.size < w5.heap.size := by have h' := HB35.out.b.size; omega
  have rT : ∀ yy : KbW w5.heap.size w5.drew, ∀ k : Nat, yy.w.cell? ⟨w1.heap.size, k, none⟩ = t.v.cells[k]? := fun yy k => (yy.h.cell ⟨w1.heap.size, k, none⟩ (by simpa using hz15) hz15).trans (HRT5.out _ (Ext.refl _).drew_ k)
  go_wp2_with fail
  refine region_xt w5.heap.size (.two [0, 1, 5] 2 (.one [] 3 (.one [] 4 (.one [] 6 (.one [] 7 (.last [8, 9, 10, 11, 12]))))) 3 (.one [] 2 (.one [] 4 (.one [] 6 (.one [] 7 (.last [8, 9, 10, 11, 12])))))) (by kernel_rfl) (by kernel_rfl) ?_
  refine segWT_two (by repeat (first | exact OpsAre.nil | exact OpAt.zero | apply OpAt.succ | apply OpsAre.cons)) (by repeat (first | exact OpAt.zero | apply OpAt.succ)) (by repeat (first | exact OpAt.zero | apply OpAt.succ)) ?_
  repeat (go_big_quiet_step (fail))
  refine wpQuiet_nil ?_
  clear rT
  have HX0 : Hid (Ext w5 w5.drew) := Lib.hid (Ext.refl _).drew_
  refine ⟨?_, ?_⟩
  ·
    obtain ⟨A6, c6, w6, hrun6, hown6, hgr6, hat6⟩ := append_ints (w := w5.drew) (base := w5.heap.size) (n := 0) (c := 0) (A := none) (l := []) (Own.nil_ w5.drew w5.heap.size 3 1) (HIA.out.ext HX0.out) (by omega) (Nat.le_refl _)
    simp only [Nat.zero_add, List.nil_append] at hrun6 hown6
    have HX6 : Hid (Ext w5 w6) := Lib.hid (ext_of_grown HX0.out hgr6 (fun k hk => by cases hk))
    go_wp2_with (at_builtin; refine wpList_run_append rfl _ _ _ rfl _ _ rfl rfl _ _ hrun6 ?_)
    refine segKB_mk (Kb.ofGrown hgr6 (fun k hk => by cases hk)) ?_
    clear hrun6
    refine segWT_one (by repeat (first | exact OpsAre.nil | exact OpAt.zero | apply OpAt.succ | apply OpsAre.cons)) (by repeat (first | exact OpAt.zero | apply OpAt.succ)) ?_
    refine wpQuiet_nil ?_
    go_wp2_with fail
    refine segKB_mk (Kb.ofExt ((Ext.refl _).alloc_ _)) ?_
    have hx7 : Ext w6 (w6.alloc (.cells #[.int .i64 46] 3)) := (Ext.refl _).alloc_ _
    have HX7 : Hid (Ext w5 (w6.alloc (.cells #[.int .i64 46] 3))) := Lib.hid (HX6.out.trans' hx7)
    obtain ⟨A8, c8, w8, hrun8, hown8, hgr8, hat8⟩ := append_ints (Own.ext hown6 hx7) (one_int w6 46) (by omega) (by have := HX6.out.b.size; simp; omega)
    have HX8 : Hid (Ext w5 w8) := Lib.hid (ext_of_grown HX7.out hgr8 (fun k hk => (Own.lt hown6 k hk).1))
    refine segWT_one (by repeat (first | exact OpsAre.nil | exact OpAt.zero | apply OpAt.succ | apply OpsAre.cons)) (by repeat (first | exact OpAt.zero | apply OpAt.succ)) ?_
    refine wpQuiet_nil ?_
    go_wp2_with (at_builtin; refine wpList_run_append rfl _ _ _ rfl _ _ rfl rfl _ _ hrun8 ?_)
    refine segKB_mk (Kb.ofGrown hgr8 (fun k hk => (Own.lt hown6 k hk).1)) ?_
    clear hrun8
    obtain ⟨A9, c9, w9, hrun9, hown9, hgr9, hat9⟩ := append_ints hown8 (HIB.out.ext HX8.out) (by omega) HX8.out.b.size
    have HX9 : Hid (Ext w5 w9) := Lib.hid (ext_of_grown HX8.out hgr9 (fun k hk => (Own.lt hown8 k hk).1))
    refine segWT_one (by repeat (first | exact OpsAre.nil | exact OpAt.zero | apply OpAt.succ | apply OpsAre.cons)) (by repeat (first | exact OpAt.zero | apply OpAt.succ)) ?_
    refine wpQuiet_nil ?_
    go_wp2_with (at_builtin; refine wpList_run_append rfl _ _ _ rfl _ _ rfl rfl _ _ hrun9 ?_)
    refine segKB_mk (Kb.ofGrown hgr9 (fun k hk => (Own.lt hown8 k hk).1)) ?_
    clear hrun9
    refine segWT_one (by repeat (first | exact OpsAre.nil | exact OpAt.zero | apply OpAt.succ | apply OpsAre.cons)) (by repeat (first | exact OpAt.zero | apply OpAt.succ)) ?_
    refine wpQuiet_nil ?_
    go_wp2_with fail
    refine (nfc_spec T t (La ++ [46] ++ Lb) A9 _ c9 w9 (HT3.out.ext_ (HB35.out.trans' HX9.out)) (OwnI.ints hown9)).mono ?_
    rintro e w10 ⟨B3, m3, d3, rfl, hb10, hi10⟩
    rw [nfcRes_ok HP.out.2.2.1] at hi10
    rw [HP.out.2.2.1]
    go_wp2_with fail
    refine segKB_mk (Kb.ofExt hb10) ?_
    refine segWT_last (by repeat (first | exact OpsAre.nil | exact OpAt.zero | apply OpAt.succ | apply OpsAre.cons)) ?_
    repeat (go_big_quiet_step (fail))
    refine wpQuiet_nil ?_
    clear hown6 hgr6 hat6 hown8 hgr8 hat8 hown9 hgr9 hat9
    have hx := HP.out.2.2.2.2.1
    have hy := HP.out.2.2.2.2.2
    rw [HP.out.2.2.2.1] at hi10
    generalize nfcT T La = X at *
    generalize nfcT T Lb = Y at *
    have HZ := Lib.hid hi10
    have HB510 := Lib.hid (HX9.out.trans' hb10)
    clear hb10 hi10
    go_wp2_with fail
    refine (c8awake_spec w10 (HG.out.ext (HB05.out.trans' HB510.out))).mono ?_
    rintro e w11 ⟨rfl, hb11⟩
    have HB11 := Lib.hid hb11
    have HX11 := Lib.hid (HX.out.ext (HB510.out.trans' hb11))
    have HY11 := Lib.hid (HY.out.ext (HB510.out.trans' hb11))
    clear hb11
    obtain ⟨A6, c6, w12, hrun6, hown6, hgr6, hat6⟩ := append_ints (w := w11) (base := w11.heap.size) (n := 0) (c := 0) (A := none) (l := []) (Own.nil_ w11 w11.heap.size 3 1) HX11.out (by omega) (Nat.le_refl _)
    simp only [Nat.zero_add, List.nil_append] at hrun6 hown6
    have HX6 : Hid (Ext w11 w12) := Lib.hid (ext_of_grown (Ext.refl _) hgr6 (fun k hk => by cases hk))
    have hx7 : Ext w12 (w12.alloc (.cells #[.int .i64 46] 3)) := (Ext.refl _).alloc_ _
    have hz6 := HX6.out.b.size
    obtain ⟨A8, c8, w13, hrun8, hown8, hgr8, hat8⟩ := append_ints (Own.ext hown6 hx7) (one_int w12 46) (by omega) (by simp; omega)
    have HX8 : Hid (Ext w11 w13) := Lib.hid (ext_of_grown (HX6.out.trans' hx7) hgr8 (fun k hk => (Own.lt hown6 k hk).1))
    obtain ⟨A7, c7, w14, hrun9, hown9, hgr9, hat9⟩ := append_ints hown8 (HY11.out.ext HX8.out) (by omega) HX8.out.b.size
    have HX14 : Hid (Ext w11 w14) := Lib.hid (ext_of_grown HX8.out hgr9 (fun k hk => (Own.lt hown8 k hk).1))
    have HIC : Hid (IntS w14 ⟨A7, X.length + 1 + Y.length, c7⟩ (X ++ [46] ++ Y)) := Lib.hid (OwnI.ints hown9)
    clear hown6 hgr6 hat6 hx7 hz6 hown8 hgr8 hat8 hown9 hgr9 hat9
    go_wp2_with (first
      | (at_builtin; refine wpList_run_append_g (by rfl) _ _ _ rfl _ _ rfl rfl _ _ hrun6 ?_)
      | (at_builtin; refine wpList_run_append_g (by rfl) _ _ _ rfl _ _ rfl rfl _ _ hrun8 ?_)
      | (at_builtin; refine wpList_run_append_g (by rfl) _ _ _ rfl _ _ rfl rfl _ _ hrun9 ?_))
    clear hrun6 hrun8 hrun9
    refine (same_spec (X ++ [46] ++ Y) (X ++ [46] ++ Y) B3 m3 d3 A7 _ c7 w14 (HZ.out.ext (HB11.out.trans' HX14.out)) HIC.out).mono ?_
    rintro e w15 ⟨rfl, hb15⟩
    rw [(sameB_eq (X ++ [46] ++ Y) _).2 rfl]
    have hb := (HB05.out.trans' HB510.out).trans' ((HB11.out.trans' HX14.out).trans' hb15)
    clear hb15
    go_wp2_with fail
    go_ret
    exact ⟨rfl, hb⟩
  ·
    go_wp2_with fail
    refine segKB_mk (Kb.ofExt ((Ext.refl _).alloc_ _)) ?_
    have hx7 : Ext w5 (w5.drew.alloc (.cells #[.int .i64 46] 3)) := HX0.out.alloc_ _
    obtain ⟨A6, c6, w6, hrun6, hown6, hgr6, hat6⟩ := append_ints (w := w5.drew.alloc (.cells #[.int .i64 46] 3)) (base := w5.heap.size) (n := 0) (c := 0) (A := none) (l := []) (Own.nil_ _ w5.heap.size 3 1) (HIA.out.ext hx7) (by omega) hx7.b.size
    simp only [Nat.zero_add, List.nil_append] at hrun6 hown6
    have HX6 : Hid (Ext w5 w6) := Lib.hid (ext_of_grown hx7 hgr6 (fun k hk => by cases hk))
    have HX7 := HX6
    have HON : Hid (IntS w6 _ [46]) := Lib.hid ((one_int w5.drew 46).ext (ext_of_grown (Ext.refl _) hgr6 (fun k hk => by cases hk)))
    refine segWT_one (by repeat (first | exact OpsAre.nil | exact OpAt.zero | apply OpAt.succ | apply OpsAre.cons)) (by repeat (first | exact OpAt.zero | apply OpAt.succ)) ?_
    refine wpQuiet_nil ?_
    go_wp2_with (at_builtin; refine wpList_run_append rfl _ _ _ rfl _ _ rfl rfl _ _ hrun6 ?_)
    refine segKB_mk (Kb.ofGrown hgr6 (fun k hk => by cases hk)) ?_
    clear hrun6
    obtain ⟨A8, c8, w8, hrun8, hown8, hgr8, hat8⟩ := append_ints hown6 HON.out (by omega) (by have := HX6.out.b.size; simp; omega)
    have HX8 : Hid (Ext w5 w8) := Lib.hid (ext_of_grown HX7.out hgr8 (fun k hk => (Own.lt hown6 k hk).1))
    refine segWT_one (by repeat (first | exact OpsAre.nil | exact OpAt.zero | apply OpAt.succ | apply OpsAre.cons)) (by repeat (first | exact OpAt.zero | apply OpAt.succ)) ?_
    refine wpQuiet_nil ?_
    go_wp2_with (at_builtin; refine wpList_run_append rfl _ _ _ rfl _ _ rfl rfl _ _ hrun8 ?_)
    refine segKB_mk (Kb.ofGrown hgr8 (fun k hk => (Own.lt hown6 k hk).1)) ?_
    clear hrun8
    obtain ⟨A9, c9, w9, hrun9, hown9, hgr9, hat9⟩ := append_ints hown8 (HIB.out.ext HX8.out) (by omega) HX8.out.b.size
    have HX9 : Hid (Ext w5 w9) := Lib.hid (ext_of_grown HX8.out hgr9 (fun k hk => (Own.lt hown8 k hk).1))
    refine segWT_one (by repeat (first | exact OpsAre.nil | exact OpAt.zero | apply OpAt.succ | apply OpsAre.cons)) (by repeat (first | exact OpAt.zero | apply OpAt.succ)) ?_
    refine wpQuiet_nil ?_
    go_wp2_with (at_builtin; refine wpList_run_append rfl _ _ _ rfl _ _ rfl rfl _ _ hrun9 ?_)
    refine segKB_mk (Kb.ofGrown hgr9 (fun k hk => (Own.lt hown8 k hk).1)) ?_
    clear hrun9
    refine segWT_one (by repeat (first | exact OpsAre.nil | exact OpAt.zero | apply OpAt.succ | apply OpsAre.cons)) (by repeat (first | exact OpAt.zero | apply OpAt.succ)) ?_
    refine wpQuiet_nil ?_
    go_wp2_with fail
    refine (nfc_spec T t (La ++ [46] ++ Lb) A9 _ c9 w9 (HT3.out.ext_ (HB35.out.trans' HX9.out)) (OwnI.ints hown9)).mono ?_
    rintro e w10 ⟨B3, m3, d3, rfl, hb10, hi10⟩
    rw [nfcRes_ok HP.out.2.2.1] at hi10
    rw [HP.out.2.2.1]
    go_wp2_with fail
    refine segKB_mk (Kb.ofExt hb10) ?_
    refine segWT_last (by repeat (first | exact OpsAre.nil | exact OpAt.zero | apply OpAt.succ | apply OpsAre.cons)) ?_
    repeat (go_big_quiet_step (fail))
    refine wpQuiet_nil ?_
    clear hown6 hgr6 hat6 hown8 hgr8 hat8 hown9 hgr9 hat9
    have hx := HP.out.2.2.2.2.1
    have hy := HP.out.2.2.2.2.2
    rw [HP.out.2.2.2.1] at hi10
    generalize nfcT T La = X at *
    generalize nfcT T Lb = Y at *
    have HZ := Lib.hid hi10
    have HB510 := Lib.hid (HX9.out.trans' hb10)
    clear hb10 hi10
    go_wp2_with fail
    refine (c8awake_spec w10 (HG.out.ext (HB05.out.trans' HB510.out))).mono ?_
    rintro e w11 ⟨rfl, hb11⟩
    have HB11 := Lib.hid hb11
    have HX11 := Lib.hid (HX.out.ext (HB510.out.trans' hb11))
    have HY11 := Lib.hid (HY.out.ext (HB510.out.trans' hb11))
    clear hb11
    obtain ⟨A6, c6, w12, hrun6, hown6, hgr6, hat6⟩ := append_ints (w := w11) (base := w11.heap.size) (n := 0) (c := 0) (A := none) (l := []) (Own.nil_ w11 w11.heap.size 3 1) HX11.out (by omega) (Nat.le_refl _)
    simp only [Nat.zero_add, List.nil_append] at hrun6 hown6
    have HX6 : Hid (Ext w11 w12) := Lib.hid (ext_of_grown (Ext.refl _) hgr6 (fun k hk => by cases hk))
    have hx7 : Ext w12 (w12.alloc (.cells #[.int .i64 46] 3)) := (Ext.refl _).alloc_ _
    have hz6 := HX6.out.b.size
    obtain ⟨A8, c8, w13, hrun8, hown8, hgr8, hat8⟩ := append_ints (Own.ext hown6 hx7) (one_int w12 46) (by omega) (by simp; omega)
    have HX8 : Hid (Ext w11 w13) := Lib.hid (ext_of_grown (HX6.out.trans' hx7) hgr8 (fun k hk => (Own.lt hown6 k hk).1))
    obtain ⟨A7, c7, w14, hrun9, hown9, hgr9, hat9⟩ := append_ints hown8 (HY11.out.ext HX8.out) (by omega) HX8.out.b.size
    have HX14 : Hid (Ext w11 w14) := Lib.hid (ext_of_grown HX8.out hgr9 (fun k hk => (Own.lt hown8 k hk).1))
    have HIC : Hid (IntS w14 ⟨A7, X.length + 1 + Y.length, c7⟩ (X ++ [46] ++ Y)) := Lib.hid (OwnI.ints hown9)
    clear hown6 hgr6 hat6 hx7 hz6 hown8 hgr8 hat8 hown9 hgr9 hat9
    go_wp2_with (first
      | (at_builtin; refine wpList_run_append_g (by rfl) _ _ _ rfl _ _ rfl rfl _ _ hrun6 ?_)
      | (at_builtin; refine wpList_run_append_g (by rfl) _ _ _ rfl _ _ rfl rfl _ _ hrun8 ?_)
      | (at_builtin; refine wpList_run_append_g (by rfl) _ _ _ rfl _ _ rfl rfl _ _ hrun9 ?_))
    clear hrun6 hrun8 hrun9
    refine (same_spec (X ++ [46] ++ Y) (X ++ [46] ++ Y) B3 m3 d3 A7 _ c7 w14 (HZ.out.ext (HB11.out.trans' HX14.out)) HIC.out).mono ?_
    rintro e w15 ⟨rfl, hb15⟩
    rw [(sameB_eq (X ++ [46] ++ Y) _).2 rfl]
    have hb := (HB05.out.trans' HB510.out).trans' ((HB11.out.trans' HX14.out).trans' hb15)
    clear hb15
    go_wp2_with fail
    go_ret
    exact ⟨rfl, hb⟩
end Go.Proofs.YtcjkikbnjadmfaaDoor
