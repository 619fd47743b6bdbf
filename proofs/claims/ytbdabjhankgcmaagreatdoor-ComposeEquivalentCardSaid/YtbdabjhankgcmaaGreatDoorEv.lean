/- Walk: namedesklaw8.ComposeEquivalent. -/
import Derived.Test.YtbdabjhankgcmaaGreatDoorGn
import Derived.Test.YtbdabjhankgcmaaGreatDoorGo
import Derived.Test.YtbdabjhankgcmaaGreatDoorGx
import Derived.Test.YtbdabjhankgcmaaGreatDoorGu
import Derived.Test.YtbdabjhankgcmaaGreatDoorQ6
namespace Go.Proofs.YtbdabjhankgcmaaGreatDoor
open Go.RowKit
theorem ints_rest {w : World} {A : Option Addr} {n c k : Nat} {l : List Int} (h : IntS w ⟨A, n, c⟩ l) (hk : k ≤ n) :
  IntS w ⟨if c = k then A else A.map (·.add k), n - k, c - k⟩ (l.drop k) := by
 obtain ⟨h1, h2, h3⟩ := h.len
 refine ⟨⟨by simp; omega, by simp; omega, by simp [maxLen]; omega⟩, fun i x hx => ?_⟩
 have hi : i < n - k := by
  have := (List.getElem?_eq_some_iff.1 hx).1
  simp at this
  omega
 have hki : k + i < l.length := by omega
 obtain ⟨b, o, ha, hc⟩ := h.at_ hki
 subst ha
 rw [if_neg (by omega)]
 refine ⟨b, o + k, ?_, ?_⟩
 ·simp only [Option.map_some, Addr.add_mid]
 ·rw [List.getElem?_drop, List.getElem?_eq_getElem hki] at hx
  injection hx with hx
  rw [← hx, ← hc, Nat.add_assoc]
theorem ints_take {w : World} {A : Option Addr} {n c m : Nat} {l : List Int} (h : IntS w ⟨A, n, c⟩ l) (hm : m ≤ l.length) : IntS w ⟨A, m, c⟩ (l.take m) := by
 obtain ⟨h1, h2, h3⟩ := h.len
 refine ⟨⟨by simp; omega, by simp; omega, h3⟩, fun i x hx => ?_⟩
 have hi : i < m := by have := (List.getElem?_eq_some_iff.1 hx).1; simp at this; omega
 rw [List.getElem?_take_of_lt hi] at hx
 exact h.2 i x hx
theorem one_law {T : Tbl} (hw : wfB T = true) {La : List Int} (hs : ∀ c ∈ La, scalarB c = true) (hl : La.length < 8) {k q : Nat} {x : Int} (hx : scalarB x = true) : nfdErr T (La.take k ++ oneT T x ++ La.drop q) = 0 := by
 have e1 : oneT T x = expT T x := by rw [oneT, hx, hw]; rfl
 have h18 := exp_len (wfc_of hw) x
 rw [e1]
 refine nfd_ok hw (fun c hc => ?_) (by simp; omega)
 rcases List.mem_append.1 hc with hc | hc
 ·rcases List.mem_append.1 hc with hc | hc
  ·exact hs c (List.mem_of_mem_take hc)
  ·exact exp_scal (scl_of hw) x hx c hc
 ·exact hs c (List.mem_of_mem_drop hc)
set_option maxHeartbeats 25600000 in
set_option maxRecDepth 100000 in
theorem composeEquivalent_spec (l m o : List Int) (at_ : Int) (Al : Option Addr) (nl cl : Nat) (Am : Option Addr) (nm cm : Nat) (Ao : Option Addr) (no co : Nat) (w : World) (hl : IntS w ⟨Al, nl, cl⟩ l) (hm : IntS w ⟨Am, nm, cm⟩ m) (ho : IntS w ⟨Ao, no, co⟩ o) (hg : Glob w) :
  Calls Tryz.prog 3 #[.slice Al nl cl, .slice Am nm cm, .slice Ao no co, .int .i64 at_] w fun e w' => e = .returned (.bool true) ∧ Ext w w' := by
 have HG := Lib.hid hg
 have Hl := Lib.hid hl
 have Hm := Lib.hid hm
 have Ho := Lib.hid ho
 clear hg hl hm ho
 go_enter Tryz.func3, Tryz.ntmps3
 go_wp2_with fail
 refine Calls.mono (tables_spec l Al nl cl w Hl.out HG.out) ?_
 rintro e w1 ⟨t, rfl, ht, hb1⟩
 have hx1 : Ext w1 (w1.alloc (.cells t.v.cells 26)) := (Ext.refl _).alloc_ _
 have HT := Lib.hid (ht.ext_ hx1)
 have HB01 := Lib.hid (hb1.trans' hx1)
 clear ht hb1 hx1
 have hlm := denseL_len m
 have hlo := denseL_len o
 go_wp2_with fail
 refine Calls.mono (dense_spec m Am _ cm _ (Hm.out.ext HB01.out)) ?_
 rintro e w2 ⟨Ba, ma, da, rfl, hi, hb⟩
 have hm := hi.len.1
 subst hm
 have HB2 : Hid (Ext _ w2) := Lib.hid hb
 have rT2 : ∀ k : Nat, w2.cell? ⟨w1.heap.size, k, none⟩ = t.v.cells[k]? := box_at HB2.out
 clear hb
 have HIa := Lib.hid hi
 clear hi
 go_wp2_with fail
 refine Calls.mono (dense_spec o Ao _ co _ (Ho.out.ext (HB01.out.trans' HB2.out))) ?_
 rintro e w3 ⟨Bb, mb, db, rfl, hi, hb⟩
 have hm := hi.len.1
 subst hm
 replace HIa := Lib.hid (HIa.out.ext hb)
 have HB3 := Lib.hid (HB2.out.trans' hb)
 have rT3 : ∀ k : Nat, w3.cell? ⟨w1.heap.size, k, none⟩ = t.v.cells[k]? := box_at HB3.out
 clear hb HB2 rT2
 have HIb := Lib.hid hi
 clear hi
 have HSA := Lib.hid (dense_scal m)
 have HSB := Lib.hid (dense_scal o)
 have HW := Lib.hid (made_wf l)
 generalize denseL m = La at *
 generalize denseL o = Lb at *
 generalize madeT l = T at *
 have HZA := Lib.hid (nfd_ok HW.out HSA.out (by omega))
 go_wp2_with fail
 refine (kpick_spec at_ 2 (by decide) (by decide) _).mono ?_
 rintro e w' ⟨rfl, rfl⟩
 by_cases hp : pickV at_ 2 = 0
 case neg =>
  have e1 : (pickV at_ 2 == 0) = false := by rw [beq_eq_false_iff_ne]; exact hp
  have HZB := Lib.hid (nfd_ok HW.out HSB.out (by omega))
  have HEQ := Lib.hid (equiv_law HW.out La Lb)
  go_wp2_with fail
  refine (nfc_spec T t La Ba _ da w3 (HT.out.ext_ HB3.out) HIa.out).mono ?_
  rintro e w4 ⟨Bx, mx, dx, rfl, hb, hi⟩
  rw [nfcRes_ok (HZA.out)] at hi
  rw [HZA.out]
  have hm := hi.len.1
  subst hm
  replace HIa := Lib.hid (HIa.out.ext hb)
  replace HIb := Lib.hid (HIb.out.ext hb)
  have HB4 := Lib.hid (HB3.out.trans' hb)
  have rT4 : ∀ k : Nat, w4.cell? ⟨w1.heap.size, k, none⟩ = t.v.cells[k]? := box_at HB4.out
  clear hb HB3 rT3
  have HIx := Lib.hid hi
  clear hi
  go_wp2_with fail
  refine (nfc_spec T t Lb Bb _ db w4 (HT.out.ext_ HB4.out) HIb.out).mono ?_
  rintro e w5 ⟨By, my, dy, rfl, hb, hi⟩
  rw [nfcRes_ok (HZB.out)] at hi
  rw [HZB.out]
  have hm := hi.len.1
  subst hm
  replace HIa := Lib.hid (HIa.out.ext hb)
  replace HIb := Lib.hid (HIb.out.ext hb)
  replace HIx := Lib.hid (HIx.out.ext hb)
  have HB5 := Lib.hid (HB4.out.trans' hb)
  have rT5 : ∀ k : Nat, w5.cell? ⟨w1.heap.size, k, none⟩ = t.v.cells[k]? := box_at HB5.out
  clear hb HB4 rT4
  have HIy := Lib.hid hi
  clear hi
  go_wp2_with fail
  refine (requiv_spec T t La Lb Ba _ da Bb _ db w5 (HT.out.ext_ HB5.out) HIa.out HIb.out HZA.out HZB.out).mono ?_
  rintro e w6 ⟨rfl, hb⟩
  rw [← HEQ.out]
  replace HIa := Lib.hid (HIa.out.ext hb)
  replace HIb := Lib.hid (HIb.out.ext hb)
  replace HIx := Lib.hid (HIx.out.ext hb)
  replace HIy := Lib.hid (HIy.out.ext hb)
  have HB6 := Lib.hid (HB5.out.trans' hb)
  have rT6 : ∀ k : Nat, w6.cell? ⟨w1.heap.size, k, none⟩ = t.v.cells[k]? := box_at HB6.out
  clear hb HB5 rT5
  go_wp2_with fail
  refine (c8awake_spec w6 (HG.out.ext (HB01.out.trans' HB6.out))).mono ?_
  rintro e w7 ⟨rfl, hb⟩
  replace HIa := Lib.hid (HIa.out.ext hb)
  replace HIb := Lib.hid (HIb.out.ext hb)
  replace HIx := Lib.hid (HIx.out.ext hb)
  replace HIy := Lib.hid (HIy.out.ext hb)
  have HB7 := Lib.hid (HB6.out.trans' hb)
  have rT7 : ∀ k : Nat, w7.cell? ⟨w1.heap.size, k, none⟩ = t.v.cells[k]? := box_at HB7.out
  clear hb HB6 rT6
  go_wp2_with fail
  refine (same_spec (nfcT T La) (nfcT T Lb) Bx _ dx By _ dy w7 HIx.out HIy.out).mono ?_
  rintro e w8 ⟨rfl, hb⟩
  generalize sameB (nfcT T La) (nfcT T Lb) = s at *
  have es : (s == s) = true := by simp
  replace HIa := Lib.hid (HIa.out.ext hb)
  replace HIb := Lib.hid (HIb.out.ext hb)
  replace HIx := Lib.hid (HIx.out.ext hb)
  replace HIy := Lib.hid (HIy.out.ext hb)
  have HB8 := Lib.hid (HB7.out.trans' hb)
  have rT8 : ∀ k : Nat, w8.cell? ⟨w1.heap.size, k, none⟩ = t.v.cells[k]? := box_at HB8.out
  clear hb HB7 rT7
  have hb := HB01.out.trans' HB8.out
  go_wp2_with fail
  go_ret
  exact ⟨rfl, hb⟩
 have e1 : (pickV at_ 2 == 0) = true := by rw [beq_iff_eq]; exact hp
 clear hp
 by_cases hl0 : La.length = 0
 case pos =>
  have d1 : decide ((0 : Int) < (La.length : Int)) = false := decide_eq_false (by omega)
  have d2 : decide (0 < La.length) = false := decide_eq_false (by omega)
  have HZB := Lib.hid (nfd_ok HW.out HSB.out (by omega))
  clear hl0
  have HEQ := Lib.hid (equiv_law HW.out La Lb)
  go_wp2_with fail
  refine (nfc_spec T t La Ba _ da w3 (HT.out.ext_ HB3.out) HIa.out).mono ?_
  rintro e w4 ⟨Bx, mx, dx, rfl, hb, hi⟩
  rw [nfcRes_ok (HZA.out)] at hi
  rw [HZA.out]
  have hm := hi.len.1
  subst hm
  replace HIa := Lib.hid (HIa.out.ext hb)
  replace HIb := Lib.hid (HIb.out.ext hb)
  have HB4 := Lib.hid (HB3.out.trans' hb)
  have rT4 : ∀ k : Nat, w4.cell? ⟨w1.heap.size, k, none⟩ = t.v.cells[k]? := box_at HB4.out
  clear hb HB3 rT3
  have HIx := Lib.hid hi
  clear hi
  go_wp2_with fail
  refine (nfc_spec T t Lb Bb _ db w4 (HT.out.ext_ HB4.out) HIb.out).mono ?_
  rintro e w5 ⟨By, my, dy, rfl, hb, hi⟩
  rw [nfcRes_ok (HZB.out)] at hi
  rw [HZB.out]
  have hm := hi.len.1
  subst hm
  replace HIa := Lib.hid (HIa.out.ext hb)
  replace HIb := Lib.hid (HIb.out.ext hb)
  replace HIx := Lib.hid (HIx.out.ext hb)
  have HB5 := Lib.hid (HB4.out.trans' hb)
  have rT5 : ∀ k : Nat, w5.cell? ⟨w1.heap.size, k, none⟩ = t.v.cells[k]? := box_at HB5.out
  clear hb HB4 rT4
  have HIy := Lib.hid hi
  clear hi
  go_wp2_with fail
  refine (requiv_spec T t La Lb Ba _ da Bb _ db w5 (HT.out.ext_ HB5.out) HIa.out HIb.out HZA.out HZB.out).mono ?_
  rintro e w6 ⟨rfl, hb⟩
  rw [← HEQ.out]
  replace HIa := Lib.hid (HIa.out.ext hb)
  replace HIb := Lib.hid (HIb.out.ext hb)
  replace HIx := Lib.hid (HIx.out.ext hb)
  replace HIy := Lib.hid (HIy.out.ext hb)
  have HB6 := Lib.hid (HB5.out.trans' hb)
  have rT6 : ∀ k : Nat, w6.cell? ⟨w1.heap.size, k, none⟩ = t.v.cells[k]? := box_at HB6.out
  clear hb HB5 rT5
  go_wp2_with fail
  refine (c8awake_spec w6 (HG.out.ext (HB01.out.trans' HB6.out))).mono ?_
  rintro e w7 ⟨rfl, hb⟩
  replace HIa := Lib.hid (HIa.out.ext hb)
  replace HIb := Lib.hid (HIb.out.ext hb)
  replace HIx := Lib.hid (HIx.out.ext hb)
  replace HIy := Lib.hid (HIy.out.ext hb)
  have HB7 := Lib.hid (HB6.out.trans' hb)
  have rT7 : ∀ k : Nat, w7.cell? ⟨w1.heap.size, k, none⟩ = t.v.cells[k]? := box_at HB7.out
  clear hb HB6 rT6
  go_wp2_with fail
  refine (same_spec (nfcT T La) (nfcT T Lb) Bx _ dx By _ dy w7 HIx.out HIy.out).mono ?_
  rintro e w8 ⟨rfl, hb⟩
  generalize sameB (nfcT T La) (nfcT T Lb) = s at *
  have es : (s == s) = true := by simp
  replace HIa := Lib.hid (HIa.out.ext hb)
  replace HIb := Lib.hid (HIb.out.ext hb)
  replace HIx := Lib.hid (HIx.out.ext hb)
  replace HIy := Lib.hid (HIy.out.ext hb)
  have HB8 := Lib.hid (HB7.out.trans' hb)
  have rT8 : ∀ k : Nat, w8.cell? ⟨w1.heap.size, k, none⟩ = t.v.cells[k]? := box_at HB8.out
  clear hb HB7 rT7
  have hb := HB01.out.trans' HB8.out
  go_wp2_with fail
  go_ret
  exact ⟨rfl, hb⟩
 have d1 : decide ((0 : Int) < (La.length : Int)) = true := decide_eq_true (by omega)
 have d2 : decide (0 < La.length) = true := decide_eq_true (by omega)
 have HK : Hid (∀ (v : Int) (w : World), Calls Tryz.prog 15 #[.int .i64 v, .int .i64 (La.length : Int)] w fun e w' => (∃ k : Nat, k < La.length ∧ e = .returned (.int .i64 (k : Int))) ∧ w = w') := Lib.hid (fun v w => (kpick_spec v (La.length : Int) (by omega) (by omega) w).mono fun e w' ⟨he, hw⟩ => by
  have hb := pickV_bd v (n := (La.length : Int)) (by omega)
  exact ⟨⟨(pickV v (La.length : Int)).toNat, by omega, by rw [he, Int.toNat_of_nonneg hb.1]⟩, hw⟩)
 clear hl0
 go_wp2_with fail
 refine (HK.out _ _).mono ?_
 rintro e w' ⟨⟨k, hk, rfl⟩, rfl⟩
 clear HK
 obtain ⟨b, o', hA, hcx⟩ := HIa.out.at_ hk
 subst hA
 have HZB' := Lib.hid (fun q => one_law (q := q) (k := k) HW.out HSA.out (by omega) (HSA.out _ (List.getElem_mem hk)))
 have hbl : b < w3.heap.size := World.block_lt_of_cell? w3 _ hcx
 have HTK := Lib.hid (ints_take HIa.out (m := k) (by omega))
 obtain ⟨q, hq⟩ : ∃ q : Nat, (k : Int) + 1 = (q : Int) := ⟨k + 1, by omega⟩
 have HQ := Lib.hid hq
 have HDR := Lib.hid (ints_rest HIa.out (k := q) (by omega))
 have hda := HIa.out.len
 generalize La[k] = x at *
 have HZB := Lib.hid (HZB'.out q)
 clear HZB'
 have hk0 : (0 : Int) ≤ (k : Int) := Int.natCast_nonneg _
 have hk1 : (k : Int) < (La.length : Int) := by omega
 have hk2 : (k : Int) ≤ (da : Int) := by omega
 have hq0 : (0 : Int) ≤ (q : Int) := Int.natCast_nonneg _
 have hq1 : (q : Int) ≤ (La.length : Int) := by omega
 have hq2 : (La.length : Int) ≤ (da : Int) := by omega
 have hqn : q ≤ La.length := by omega
 have hzT : w1.heap.size < w3.heap.size := by have h' := HB3.out.b.size; simp at h'; omega
 have HRT : Hid (∀ w', Ext w3 w' → ∀ k : Nat, w'.cell? ⟨w1.heap.size, k, none⟩ = t.v.cells[k]?) := Lib.hid (fun w' h => box_at (HB3.out.trans' h))
 have HX0 : Hid (Ext w3 w3.drew) := Lib.hid (Ext.refl _).drew_
 have rT : ∀ yy : KbW w3.heap.size w3.drew, ∀ k : Nat, yy.w.cell? ⟨w1.heap.size, k, none⟩ = t.v.cells[k]? := fun yy k => (yy.h.cell ⟨w1.heap.size, k, none⟩ (by simpa using hzT) hzT).trans (HRT.out _ HX0.out k)
 have rX : ∀ yy : KbW w3.heap.size w3.drew, yy.w.cell? ⟨b, o' + k, none⟩ = some (.int .i64 x) := fun yy => (yy.h.cell ⟨b, o' + k, none⟩ (by simpa using hbl) hbl).trans hcx
 clear rT3
 by_cases hcp : da = q
 ·
  have HPT : Hid (IntS w3 ⟨some ⟨b, o', none⟩, 0, 0⟩ (La.drop q)) := Lib.hid (by
   have h := HDR.out
   rw [if_pos hcp, show La.length - q = 0 from by omega, show da - q = 0 from by omega] at h
   exact h)
  clear HDR
  subst hcp
  go_wp2_with fail
  refine region_xt w3.heap.size (.one [0, 1, 2, 4, 5, 6, 7, 8, 11, 12, 13, 14] 3 (.one [] 9 (.one [] 10 (.one [] 15 (.last [16]))))) (by kernel_rfl) (by kernel_rfl) ?_
  refine segWT_one (by repeat (first | exact OpsAre.nil | exact OpAt.zero | apply OpAt.succ | apply OpsAre.cons)) (by repeat (first | exact OpAt.zero | apply OpAt.succ)) ?_
  repeat (go_big_quiet_step (fail))
  refine wpQuiet_nil ?_
  clear rT rX hcx
  obtain ⟨A6, c6, w6, hrun6, hown6, hgr6, _⟩ := append_ints (w := w3.drew) (base := w3.heap.size) (n := 0) (c := 0) (A := none) (l := []) (Own.nil_ w3.drew w3.heap.size 3 1) (HTK.out.ext HX0.out) (by omega) HX0.out.b.size
  simp only [Nat.zero_add, List.nil_append] at hrun6 hown6
  have HX6 : Hid (Ext w3 w6) := Lib.hid (ext_of_grown HX0.out hgr6 (fun k hk => by cases hk))
  go_wp2_with (at_builtin; refine wpList_run_append rfl _ _ _ rfl _ _ rfl rfl _ _ hrun6 ?_)
  refine segKB_mk (Kb.ofGrown hgr6 (fun k hk => by cases hk)) ?_
  clear hrun6 hgr6
  refine segWT_one (by repeat (first | exact OpsAre.nil | exact OpAt.zero | apply OpAt.succ | apply OpsAre.cons)) (by repeat (first | exact OpAt.zero | apply OpAt.succ)) ?_
  refine wpQuiet_nil ?_
  go_wp2_with fail
  refine (rone_spec T t x _ (HT.out.ext_ (HB3.out.trans' HX6.out))).mono ?_
  rintro e w7 ⟨A7, n7, c7, rfl, hi7, hb7⟩
  have HI7 := Lib.hid hi7
  have HN7 : Hid (n7 ≤ 1000) := Lib.hid (by
   have h1 := hi7.len.1
   have h2 := exp_len (wfc_of HW.out) x
   have h3 : (oneT T x).length ≤ (expT T x).length := by unfold oneT; split <;> simp
   omega)
  go_wp2_with fail
  refine segKB_mk (Kb.ofExt hb7) ?_
  have HX7 := Lib.hid (HX6.out.trans' hb7)
  replace hown6 := Own.ext hown6 hb7
  clear hb7 hi7 HX6
  obtain ⟨A8, c8, w8, hrun8, hown8, hgr8, _⟩ := append_ints hown6 HI7.out (by have := HN7.out; omega) HX7.out.b.size
  have HX8 : Hid (Ext w3 w8) := Lib.hid (ext_of_grown HX7.out hgr8 (fun k hk => (Own.lt hown6 k hk).1))
  refine segWT_one (by repeat (first | exact OpsAre.nil | exact OpAt.zero | apply OpAt.succ | apply OpsAre.cons)) (by repeat (first | exact OpAt.zero | apply OpAt.succ)) ?_
  refine wpQuiet_nil ?_
  go_wp2_with (at_builtin; refine wpList_run_append rfl _ _ _ rfl _ _ rfl rfl _ _ hrun8 ?_)
  refine segKB_mk (Kb.ofGrown hgr8 (fun k hk => (Own.lt hown6 k hk).1)) ?_
  clear hrun8 hgr8
  obtain ⟨A9, c9, w9, hrun9, hown9, hgr9, _⟩ := append_ints hown8 (HPT.out.ext HX8.out) (by have := HN7.out; omega) HX8.out.b.size
  have HX9 : Hid (Ext w3 w9) := Lib.hid (ext_of_grown HX8.out hgr9 (fun k hk => (Own.lt hown8 k hk).1))
  refine segWT_one (by repeat (first | exact OpsAre.nil | exact OpAt.zero | apply OpAt.succ | apply OpsAre.cons)) (by repeat (first | exact OpAt.zero | apply OpAt.succ)) ?_
  refine wpQuiet_nil ?_
  go_wp2_with (at_builtin; refine wpList_run_append rfl _ _ _ rfl _ _ rfl rfl _ _ hrun9 ?_)
  refine segKB_mk (Kb.ofGrown hgr9 (fun k hk => (Own.lt hown8 k hk).1)) ?_
  clear hrun9 hgr9
  refine segWT_last (by repeat (first | exact OpsAre.nil | exact OpAt.zero | apply OpAt.succ | apply OpsAre.cons)) ?_
  repeat (go_big_quiet_step (fail))
  refine wpQuiet_nil ?_
  have HIq := Lib.hid (OwnI.ints hown9)
  have hx9 := HX9.out
  clear hown6 hown8 hown9 HX7 HX8 HX9
  obtain ⟨LB, hLB⟩ : ∃ LB, (List.take k La ++ oneT T x ++ List.drop da La) = LB := ⟨_, rfl⟩
  rw [hLB] at HZB HIq
  clear hLB
  replace HIa := Lib.hid (HIa.out.ext hx9)
  have HB20 := Lib.hid (HB3.out.trans' hx9)
  have rT20 : ∀ k : Nat, w9.cell? ⟨w1.heap.size, k, none⟩ = t.v.cells[k]? := box_at HB20.out
  clear hx9 HB3
  clear HPT HTK hq HI7
  have HEQ := Lib.hid (equiv_law HW.out La LB)
  go_wp2_with fail
  refine (nfc_spec T t La (some ⟨b, o', none⟩) _ da w9 (HT.out.ext_ HB20.out) HIa.out).mono ?_
  rintro e w21 ⟨Bx, mx, dx, rfl, hb, hi⟩
  rw [nfcRes_ok (HZA.out)] at hi
  rw [HZA.out]
  have hm := hi.len.1
  subst hm
  replace HIa := Lib.hid (HIa.out.ext hb)
  replace HIq := Lib.hid (HIq.out.ext hb)
  have HB21 := Lib.hid (HB20.out.trans' hb)
  have rT21 : ∀ k : Nat, w21.cell? ⟨w1.heap.size, k, none⟩ = t.v.cells[k]? := box_at HB21.out
  clear hb HB20 rT20
  have HIx := Lib.hid hi
  clear hi
  go_wp2_with fail
  refine (nfc_spec T t LB A9 _ c9 w21 (HT.out.ext_ HB21.out) HIq.out).mono ?_
  rintro e w22 ⟨By, my, dy, rfl, hb, hi⟩
  rw [nfcRes_ok (HZB.out)] at hi
  rw [HZB.out]
  have hm := hi.len.1
  subst hm
  replace HIa := Lib.hid (HIa.out.ext hb)
  replace HIq := Lib.hid (HIq.out.ext hb)
  replace HIx := Lib.hid (HIx.out.ext hb)
  have HB22 := Lib.hid (HB21.out.trans' hb)
  have rT22 : ∀ k : Nat, w22.cell? ⟨w1.heap.size, k, none⟩ = t.v.cells[k]? := box_at HB22.out
  clear hb HB21 rT21
  have HIy := Lib.hid hi
  clear hi
  go_wp2_with fail
  refine (requiv_spec T t La LB (some ⟨b, o', none⟩) _ da A9 _ c9 w22 (HT.out.ext_ HB22.out) HIa.out HIq.out HZA.out HZB.out).mono ?_
  rintro e w23 ⟨rfl, hb⟩
  rw [← HEQ.out]
  replace HIa := Lib.hid (HIa.out.ext hb)
  replace HIq := Lib.hid (HIq.out.ext hb)
  replace HIx := Lib.hid (HIx.out.ext hb)
  replace HIy := Lib.hid (HIy.out.ext hb)
  have HB23 := Lib.hid (HB22.out.trans' hb)
  have rT23 : ∀ k : Nat, w23.cell? ⟨w1.heap.size, k, none⟩ = t.v.cells[k]? := box_at HB23.out
  clear hb HB22 rT22
  go_wp2_with fail
  refine (c8awake_spec w23 (HG.out.ext (HB01.out.trans' HB23.out))).mono ?_
  rintro e w24 ⟨rfl, hb⟩
  replace HIa := Lib.hid (HIa.out.ext hb)
  replace HIq := Lib.hid (HIq.out.ext hb)
  replace HIx := Lib.hid (HIx.out.ext hb)
  replace HIy := Lib.hid (HIy.out.ext hb)
  have HB24 := Lib.hid (HB23.out.trans' hb)
  have rT24 : ∀ k : Nat, w24.cell? ⟨w1.heap.size, k, none⟩ = t.v.cells[k]? := box_at HB24.out
  clear hb HB23 rT23
  go_wp2_with fail
  refine (same_spec (nfcT T La) (nfcT T LB) Bx _ dx By _ dy w24 HIx.out HIy.out).mono ?_
  rintro e w25 ⟨rfl, hb⟩
  generalize sameB (nfcT T La) (nfcT T LB) = s at *
  have es : (s == s) = true := by simp
  replace HIa := Lib.hid (HIa.out.ext hb)
  replace HIq := Lib.hid (HIq.out.ext hb)
  replace HIx := Lib.hid (HIx.out.ext hb)
  replace HIy := Lib.hid (HIy.out.ext hb)
  have HB25 := Lib.hid (HB24.out.trans' hb)
  have rT25 : ∀ k : Nat, w25.cell? ⟨w1.heap.size, k, none⟩ = t.v.cells[k]? := box_at HB25.out
  clear hb HB24 rT24
  have hb := HB01.out.trans' HB25.out
  go_wp2_with fail
  go_ret
  exact ⟨rfl, hb⟩
 ·
  have HPT : Hid (IntS w3 ⟨some ⟨b, o' + q, none⟩, La.length - q, da - q⟩ (La.drop q)) := Lib.hid (by
   have h := HDR.out
   rw [if_neg hcp] at h
   simpa only [Option.map_some, Addr.add_mid] using h)
  clear HDR
  go_wp2_with fail
  refine region_xt w3.heap.size (.one [0, 1, 2, 4, 5, 6, 7, 8, 11, 12, 13, 14] 3 (.one [] 9 (.one [] 10 (.one [] 15 (.last [16]))))) (by kernel_rfl) (by kernel_rfl) ?_
  refine segWT_one (by repeat (first | exact OpsAre.nil | exact OpAt.zero | apply OpAt.succ | apply OpsAre.cons)) (by repeat (first | exact OpAt.zero | apply OpAt.succ)) ?_
  repeat (go_big_quiet_step (fail))
  refine wpQuiet_nil ?_
  clear rT rX hcx
  obtain ⟨A6, c6, w6, hrun6, hown6, hgr6, _⟩ := append_ints (w := w3.drew) (base := w3.heap.size) (n := 0) (c := 0) (A := none) (l := []) (Own.nil_ w3.drew w3.heap.size 3 1) (HTK.out.ext HX0.out) (by omega) HX0.out.b.size
  simp only [Nat.zero_add, List.nil_append] at hrun6 hown6
  have HX6 : Hid (Ext w3 w6) := Lib.hid (ext_of_grown HX0.out hgr6 (fun k hk => by cases hk))
  go_wp2_with (at_builtin; refine wpList_run_append rfl _ _ _ rfl _ _ rfl rfl _ _ hrun6 ?_)
  refine segKB_mk (Kb.ofGrown hgr6 (fun k hk => by cases hk)) ?_
  clear hrun6 hgr6
  refine segWT_one (by repeat (first | exact OpsAre.nil | exact OpAt.zero | apply OpAt.succ | apply OpsAre.cons)) (by repeat (first | exact OpAt.zero | apply OpAt.succ)) ?_
  refine wpQuiet_nil ?_
  go_wp2_with fail
  refine (rone_spec T t x _ (HT.out.ext_ (HB3.out.trans' HX6.out))).mono ?_
  rintro e w7 ⟨A7, n7, c7, rfl, hi7, hb7⟩
  have HI7 := Lib.hid hi7
  have HN7 : Hid (n7 ≤ 1000) := Lib.hid (by
   have h1 := hi7.len.1
   have h2 := exp_len (wfc_of HW.out) x
   have h3 : (oneT T x).length ≤ (expT T x).length := by unfold oneT; split <;> simp
   omega)
  go_wp2_with fail
  refine segKB_mk (Kb.ofExt hb7) ?_
  have HX7 := Lib.hid (HX6.out.trans' hb7)
  replace hown6 := Own.ext hown6 hb7
  clear hb7 hi7 HX6
  obtain ⟨A8, c8, w8, hrun8, hown8, hgr8, _⟩ := append_ints hown6 HI7.out (by have := HN7.out; omega) HX7.out.b.size
  have HX8 : Hid (Ext w3 w8) := Lib.hid (ext_of_grown HX7.out hgr8 (fun k hk => (Own.lt hown6 k hk).1))
  refine segWT_one (by repeat (first | exact OpsAre.nil | exact OpAt.zero | apply OpAt.succ | apply OpsAre.cons)) (by repeat (first | exact OpAt.zero | apply OpAt.succ)) ?_
  refine wpQuiet_nil ?_
  go_wp2_with (at_builtin; refine wpList_run_append rfl _ _ _ rfl _ _ rfl rfl _ _ hrun8 ?_)
  refine segKB_mk (Kb.ofGrown hgr8 (fun k hk => (Own.lt hown6 k hk).1)) ?_
  clear hrun8 hgr8
  obtain ⟨A9, c9, w9, hrun9, hown9, hgr9, _⟩ := append_ints hown8 (HPT.out.ext HX8.out) (by have := HN7.out; omega) HX8.out.b.size
  have HX9 : Hid (Ext w3 w9) := Lib.hid (ext_of_grown HX8.out hgr9 (fun k hk => (Own.lt hown8 k hk).1))
  refine segWT_one (by repeat (first | exact OpsAre.nil | exact OpAt.zero | apply OpAt.succ | apply OpsAre.cons)) (by repeat (first | exact OpAt.zero | apply OpAt.succ)) ?_
  refine wpQuiet_nil ?_
  go_wp2_with (at_builtin; refine wpList_run_append rfl _ _ _ rfl _ _ rfl rfl _ _ hrun9 ?_)
  refine segKB_mk (Kb.ofGrown hgr9 (fun k hk => (Own.lt hown8 k hk).1)) ?_
  clear hrun9 hgr9
  refine segWT_last (by repeat (first | exact OpsAre.nil | exact OpAt.zero | apply OpAt.succ | apply OpsAre.cons)) ?_
  repeat (go_big_quiet_step (fail))
  refine wpQuiet_nil ?_
  have HIq := Lib.hid (OwnI.ints hown9)
  have hx9 := HX9.out
  clear hown6 hown8 hown9 HX7 HX8 HX9
  obtain ⟨LB, hLB⟩ : ∃ LB, (List.take k La ++ oneT T x ++ List.drop q La) = LB := ⟨_, rfl⟩
  rw [hLB] at HZB HIq
  clear hLB
  replace HIa := Lib.hid (HIa.out.ext hx9)
  have HB20 := Lib.hid (HB3.out.trans' hx9)
  have rT20 : ∀ k : Nat, w9.cell? ⟨w1.heap.size, k, none⟩ = t.v.cells[k]? := box_at HB20.out
  clear hx9 HB3
  clear HPT HTK hq HI7
  have HEQ := Lib.hid (equiv_law HW.out La LB)
  go_wp2_with fail
  refine (nfc_spec T t La (some ⟨b, o', none⟩) _ da w9 (HT.out.ext_ HB20.out) HIa.out).mono ?_
  rintro e w21 ⟨Bx, mx, dx, rfl, hb, hi⟩
  rw [nfcRes_ok (HZA.out)] at hi
  rw [HZA.out]
  have hm := hi.len.1
  subst hm
  replace HIa := Lib.hid (HIa.out.ext hb)
  replace HIq := Lib.hid (HIq.out.ext hb)
  have HB21 := Lib.hid (HB20.out.trans' hb)
  have rT21 : ∀ k : Nat, w21.cell? ⟨w1.heap.size, k, none⟩ = t.v.cells[k]? := box_at HB21.out
  clear hb HB20 rT20
  have HIx := Lib.hid hi
  clear hi
  go_wp2_with fail
  refine (nfc_spec T t LB A9 _ c9 w21 (HT.out.ext_ HB21.out) HIq.out).mono ?_
  rintro e w22 ⟨By, my, dy, rfl, hb, hi⟩
  rw [nfcRes_ok (HZB.out)] at hi
  rw [HZB.out]
  have hm := hi.len.1
  subst hm
  replace HIa := Lib.hid (HIa.out.ext hb)
  replace HIq := Lib.hid (HIq.out.ext hb)
  replace HIx := Lib.hid (HIx.out.ext hb)
  have HB22 := Lib.hid (HB21.out.trans' hb)
  have rT22 : ∀ k : Nat, w22.cell? ⟨w1.heap.size, k, none⟩ = t.v.cells[k]? := box_at HB22.out
  clear hb HB21 rT21
  have HIy := Lib.hid hi
  clear hi
  go_wp2_with fail
  refine (requiv_spec T t La LB (some ⟨b, o', none⟩) _ da A9 _ c9 w22 (HT.out.ext_ HB22.out) HIa.out HIq.out HZA.out HZB.out).mono ?_
  rintro e w23 ⟨rfl, hb⟩
  rw [← HEQ.out]
  replace HIa := Lib.hid (HIa.out.ext hb)
  replace HIq := Lib.hid (HIq.out.ext hb)
  replace HIx := Lib.hid (HIx.out.ext hb)
  replace HIy := Lib.hid (HIy.out.ext hb)
  have HB23 := Lib.hid (HB22.out.trans' hb)
  have rT23 : ∀ k : Nat, w23.cell? ⟨w1.heap.size, k, none⟩ = t.v.cells[k]? := box_at HB23.out
  clear hb HB22 rT22
  go_wp2_with fail
  refine (c8awake_spec w23 (HG.out.ext (HB01.out.trans' HB23.out))).mono ?_
  rintro e w24 ⟨rfl, hb⟩
  replace HIa := Lib.hid (HIa.out.ext hb)
  replace HIq := Lib.hid (HIq.out.ext hb)
  replace HIx := Lib.hid (HIx.out.ext hb)
  replace HIy := Lib.hid (HIy.out.ext hb)
  have HB24 := Lib.hid (HB23.out.trans' hb)
  have rT24 : ∀ k : Nat, w24.cell? ⟨w1.heap.size, k, none⟩ = t.v.cells[k]? := box_at HB24.out
  clear hb HB23 rT23
  go_wp2_with fail
  refine (same_spec (nfcT T La) (nfcT T LB) Bx _ dx By _ dy w24 HIx.out HIy.out).mono ?_
  rintro e w25 ⟨rfl, hb⟩
  generalize sameB (nfcT T La) (nfcT T LB) = s at *
  have es : (s == s) = true := by simp
  replace HIa := Lib.hid (HIa.out.ext hb)
  replace HIq := Lib.hid (HIq.out.ext hb)
  replace HIx := Lib.hid (HIx.out.ext hb)
  replace HIy := Lib.hid (HIy.out.ext hb)
  have HB25 := Lib.hid (HB24.out.trans' hb)
  have rT25 : ∀ k : Nat, w25.cell? ⟨w1.heap.size, k, none⟩ = t.v.cells[k]? := box_at HB25.out
  clear hb HB24 rT24
  have hb := HB01.out.trans' HB25.out
  go_wp2_with fail
  go_ret
  exact ⟨rfl, hb⟩
end Go.Proofs.YtbdabjhankgcmaaGreatDoor
