/- Walk: namedesklaw8.ComposeTwice. -/
import Derived.Test.YtcjkikbnjadmfaaGreatDoorGw
import Derived.Test.YtcjkikbnjadmfaaGreatDoorGo
import Derived.Test.YtcjkikbnjadmfaaGreatDoorGx
import Derived.Test.YtcjkikbnjadmfaaGreatDoorGu
namespace Go.Proofs.YtcjkikbnjadmfaaGreatDoor
open Go.RowKit


set_option maxHeartbeats 6400000 in
set_option maxRecDepth 100000 in
theorem composeTwice_spec (l m : List Int) (Al : Option Addr) (nl cl : Nat) (Am : Option Addr) (nm cm : Nat) (w : World) (hl : IntS w ⟨Al, nl, cl⟩ l) (hm : IntS w ⟨Am, nm, cm⟩ m) (hg : Glob w) :
    Calls Tryz.prog 4 #[.slice Al nl cl, .slice Am nm cm] w fun e w' => e = .returned (.bool true) ∧ Ext w w' := by
  have HG := Lib.hid hg
  have Hl := Lib.hid hl
  have Hm := Lib.hid hm
  clear hg hl hm
  go_enter Tryz.func4, Tryz.ntmps4
  go_wp2_with fail
  refine Calls.mono (tables_spec l Al nl cl w Hl.out HG.out) ?_
  rintro e w1 ⟨t, rfl, ht, hb1⟩
  have hx1 : Ext w1 (w1.alloc (.cells t.v.cells 26)) := (Ext.refl _).alloc_ _
  have HT := Lib.hid (ht.ext_ hx1)
  have HB01 := Lib.hid (hb1.trans' hx1)
  clear ht hb1 hx1
  have hlm := denseL_len m
  go_wp2_with fail
  refine Calls.mono (dense_spec m Am _ cm _ (Hm.out.ext HB01.out)) ?_
  rintro e w2 ⟨Ba, ma, da, rfl, hi, hb⟩
  have hm := hi.len.1
  subst hm
  have HB2 : Hid (Ext _ w2) := Lib.hid hb
  have rT2 : ∀ k : Nat, w2.cell? ⟨w1.heap.size, k, none⟩ = t.v.cells[k]? := box_at HB2.out
  clear hb
  have HIa := Lib.hid hi
  clear hi
  have HP := Lib.hid (twice_law (made_wf l) (dense_scal m) (by omega))
  generalize denseL m = La at *
  generalize madeT l = T at *
  clear hlm
  go_wp2_with fail
  refine (nfc_spec T t La Ba _ da w2 (HT.out.ext_ HB2.out) HIa.out).mono ?_
  rintro e w3 ⟨Bc, mc, dc, rfl, hb, hi⟩
  rw [nfcRes_ok (HP.out.1)] at hi
  rw [HP.out.1]
  have hm := hi.len.1
  subst hm
  replace HIa := Lib.hid (HIa.out.ext hb)
  have HB3 := Lib.hid (HB2.out.trans' hb)
  have rT3 : ∀ k : Nat, w3.cell? ⟨w1.heap.size, k, none⟩ = t.v.cells[k]? := box_at HB3.out
  clear hb HB2 rT2
  have HIc := Lib.hid hi
  clear hi
  go_wp2_with fail
  refine (rnfd_spec T t La Ba _ da w3 (HT.out.ext_ HB3.out) HIa.out).mono ?_
  rintro e w4 ⟨Bd, md, dd, rfl, hb, hi⟩
  rw [nfdRes_ok (HP.out.1)] at hi
  rw [HP.out.1]
  have hm := hi.len.1
  subst hm
  replace HIa := Lib.hid (HIa.out.ext hb)
  replace HIc := Lib.hid (HIc.out.ext hb)
  have HB4 := Lib.hid (HB3.out.trans' hb)
  have rT4 : ∀ k : Nat, w4.cell? ⟨w1.heap.size, k, none⟩ = t.v.cells[k]? := box_at HB4.out
  clear hb HB3 rT3
  have HId := Lib.hid hi
  clear hi
  go_wp2_with fail
  refine (nfc_spec T t (nfcT T La) Bc _ dc w4 (HT.out.ext_ HB4.out) HIc.out).mono ?_
  rintro e w5 ⟨Bg, mg, dg, rfl, hb, hi⟩
  rw [nfcRes_ok (HP.out.2.1)] at hi
  rw [HP.out.2.1]
  rw [HP.out.2.2.2.1] at hi
  have hm := hi.len.1
  subst hm
  replace HIa := Lib.hid (HIa.out.ext hb)
  replace HIc := Lib.hid (HIc.out.ext hb)
  replace HId := Lib.hid (HId.out.ext hb)
  have HB5 := Lib.hid (HB4.out.trans' hb)
  have rT5 : ∀ k : Nat, w5.cell? ⟨w1.heap.size, k, none⟩ = t.v.cells[k]? := box_at HB5.out
  clear hb HB4 rT4
  have HIg := Lib.hid hi
  clear hi
  go_wp2_with fail
  refine (rnfd_spec T t (nfcT T La) Bc _ dc w5 (HT.out.ext_ HB5.out) HIc.out).mono ?_
  rintro e w6 ⟨Bb, mb, db, rfl, hb, hi⟩
  rw [nfdRes_ok (HP.out.2.1)] at hi
  rw [HP.out.2.1]
  rw [HP.out.2.2.2.2.1] at hi
  have hm := hi.len.1
  subst hm
  replace HIa := Lib.hid (HIa.out.ext hb)
  replace HIc := Lib.hid (HIc.out.ext hb)
  replace HId := Lib.hid (HId.out.ext hb)
  replace HIg := Lib.hid (HIg.out.ext hb)
  have HB6 := Lib.hid (HB5.out.trans' hb)
  have rT6 : ∀ k : Nat, w6.cell? ⟨w1.heap.size, k, none⟩ = t.v.cells[k]? := box_at HB6.out
  clear hb HB5 rT5
  have HIb := Lib.hid hi
  clear hi
  go_wp2_with fail
  refine (nfc_spec T t (nfdT T La) Bd _ dd w6 (HT.out.ext_ HB6.out) HId.out).mono ?_
  rintro e w7 ⟨Bu, mu, du, rfl, hb, hi⟩
  rw [nfcRes_ok (HP.out.2.2.1)] at hi
  rw [HP.out.2.2.1]
  rw [HP.out.2.2.2.2.2.1] at hi
  have hm := hi.len.1
  subst hm
  replace HIa := Lib.hid (HIa.out.ext hb)
  replace HIc := Lib.hid (HIc.out.ext hb)
  replace HId := Lib.hid (HId.out.ext hb)
  replace HIg := Lib.hid (HIg.out.ext hb)
  replace HIb := Lib.hid (HIb.out.ext hb)
  have HB7 := Lib.hid (HB6.out.trans' hb)
  have rT7 : ∀ k : Nat, w7.cell? ⟨w1.heap.size, k, none⟩ = t.v.cells[k]? := box_at HB7.out
  clear hb HB6 rT6
  have HIu := Lib.hid hi
  clear hi
  go_wp2_with fail
  refine (c8awake_spec w7 (HG.out.ext (HB01.out.trans' HB7.out))).mono ?_
  rintro e w8 ⟨rfl, hb⟩
  replace HIa := Lib.hid (HIa.out.ext hb)
  replace HIc := Lib.hid (HIc.out.ext hb)
  replace HId := Lib.hid (HId.out.ext hb)
  replace HIg := Lib.hid (HIg.out.ext hb)
  replace HIb := Lib.hid (HIb.out.ext hb)
  replace HIu := Lib.hid (HIu.out.ext hb)
  have HB8 := Lib.hid (HB7.out.trans' hb)
  have rT8 : ∀ k : Nat, w8.cell? ⟨w1.heap.size, k, none⟩ = t.v.cells[k]? := box_at HB8.out
  clear hb HB7 rT7
  go_wp2_with fail
  refine (same_spec (nfcT T La) (nfcT T La) Bg _ dg Bc _ dc w8 HIg.out HIc.out).mono ?_
  rintro e w9 ⟨rfl, hb⟩
  rw [(sameB_eq (nfcT T La) (nfcT T La)).2 rfl]
  replace HIa := Lib.hid (HIa.out.ext hb)
  replace HIc := Lib.hid (HIc.out.ext hb)
  replace HId := Lib.hid (HId.out.ext hb)
  replace HIg := Lib.hid (HIg.out.ext hb)
  replace HIb := Lib.hid (HIb.out.ext hb)
  replace HIu := Lib.hid (HIu.out.ext hb)
  have HB9 := Lib.hid (HB8.out.trans' hb)
  have rT9 : ∀ k : Nat, w9.cell? ⟨w1.heap.size, k, none⟩ = t.v.cells[k]? := box_at HB9.out
  clear hb HB8 rT8
  go_wp2_with fail
  refine (same_spec (nfdT T La) (nfdT T La) Bb _ db Bd _ dd w9 HIb.out HId.out).mono ?_
  rintro e w10 ⟨rfl, hb⟩
  rw [(sameB_eq (nfdT T La) (nfdT T La)).2 rfl]
  replace HIa := Lib.hid (HIa.out.ext hb)
  replace HIc := Lib.hid (HIc.out.ext hb)
  replace HId := Lib.hid (HId.out.ext hb)
  replace HIg := Lib.hid (HIg.out.ext hb)
  replace HIb := Lib.hid (HIb.out.ext hb)
  replace HIu := Lib.hid (HIu.out.ext hb)
  have HB10 := Lib.hid (HB9.out.trans' hb)
  have rT10 : ∀ k : Nat, w10.cell? ⟨w1.heap.size, k, none⟩ = t.v.cells[k]? := box_at HB10.out
  clear hb HB9 rT9
  go_wp2_with fail
  refine (same_spec (nfcT T La) (nfcT T La) Bu _ du Bc _ dc w10 HIu.out HIc.out).mono ?_
  rintro e w11 ⟨rfl, hb⟩
  rw [(sameB_eq (nfcT T La) (nfcT T La)).2 rfl]
  replace HIa := Lib.hid (HIa.out.ext hb)
  replace HIc := Lib.hid (HIc.out.ext hb)
  replace HId := Lib.hid (HId.out.ext hb)
  replace HIg := Lib.hid (HIg.out.ext hb)
  replace HIb := Lib.hid (HIb.out.ext hb)
  replace HIu := Lib.hid (HIu.out.ext hb)
  have HB11 := Lib.hid (HB10.out.trans' hb)
  have rT11 : ∀ k : Nat, w11.cell? ⟨w1.heap.size, k, none⟩ = t.v.cells[k]? := box_at HB11.out
  clear hb HB10 rT10
  go_wp2_with fail
  refine (isnfc_spec T t (nfcT T La) Bc _ dc w11 (HT.out.ext_ HB11.out) HIc.out).mono ?_
  rintro e w12 ⟨rfl, hb⟩
  rw [HP.out.2.2.2.2.2.2]
  replace HIa := Lib.hid (HIa.out.ext hb)
  replace HIc := Lib.hid (HIc.out.ext hb)
  replace HId := Lib.hid (HId.out.ext hb)
  replace HIg := Lib.hid (HIg.out.ext hb)
  replace HIb := Lib.hid (HIb.out.ext hb)
  replace HIu := Lib.hid (HIu.out.ext hb)
  have HB12 := Lib.hid (HB11.out.trans' hb)
  have rT12 : ∀ k : Nat, w12.cell? ⟨w1.heap.size, k, none⟩ = t.v.cells[k]? := box_at HB12.out
  clear hb HB11 rT11
  have hb := HB01.out.trans' HB12.out
  go_wp2_with fail
  go_ret
  exact ⟨rfl, hb⟩
end Go.Proofs.YtcjkikbnjadmfaaGreatDoor
