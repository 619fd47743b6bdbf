/- Walk: namedesklaw8.ComposeQuick. -/
import Derived.Test.YtcjkikbnjadmfaaGreatDoorGw
import Derived.Test.YtcjkikbnjadmfaaGreatDoorGo
import Derived.Test.YtcjkikbnjadmfaaGreatDoorGx
import Derived.Test.YtcjkikbnjadmfaaGreatDoorUe
namespace Go.Proofs.YtcjkikbnjadmfaaGreatDoor
open Go.RowKit

theorem qk_three {T : Tbl} (l : List Int) : qkT T l = 1 ∨ qkT T l = 0 ∨ qkT T l = 2 := by
  unfold qkT qckT
  repeat' split
  all_goals simp

set_option maxHeartbeats 6400000 in
set_option maxRecDepth 100000 in
theorem composeQuick_spec (l m : List Int) (Al : Option Addr) (nl cl : Nat) (Am : Option Addr) (nm cm : Nat) (w : World) (hl : IntS w ⟨Al, nl, cl⟩ l) (hm : IntS w ⟨Am, nm, cm⟩ m) (hg : Glob w) :
    Calls Tryz.prog 6 #[.slice Al nl cl, .slice Am nm cm] w fun e w' => e = .returned (.bool true) ∧ Ext w w' := by
  have HG := Lib.hid hg
  have Hl := Lib.hid hl
  have Hm := Lib.hid hm
  clear hg hl hm
  go_enter Tryz.func6, Tryz.ntmps6
  go_wp2_with fail
  refine Calls.mono (tables_spec l Al nl cl w Hl.out HG.out) ?_
  rintro e w1 ⟨t, rfl, ht, hb1⟩
  have hx1 : Ext w1 (w1.alloc (.cells t.v.cells 26)) := (Ext.refl _).alloc_ _
  have HT := Lib.hid (ht.ext_ hx1)
  have HB01 := Lib.hid (hb1.trans' hx1)
  clear ht hb1 hx1
  have hlm := denseL_len m
  go_wp2_with fail
  refine Calls.mono (dense_spec m Am _ cm _ (Hm.out.ext HB01.out)) ?_
  rintro e w2 ⟨Ba, ma, da, rfl, hi, hb⟩
  have hm := hi.len.1
  subst hm
  have HB2 : Hid (Ext _ w2) := Lib.hid hb
  have rT2 : ∀ k : Nat, w2.cell? ⟨w1.heap.size, k, none⟩ = t.v.cells[k]? := box_at HB2.out
  clear hb
  have HIa := Lib.hid hi
  clear hi
  have HP := Lib.hid (quick_law (made_wf l) (dense_scal m) (by omega))
  have h3 := qk_three (T := madeT l) (denseL m)
  generalize denseL m = La at *
  generalize madeT l = T at *
  clear hlm
  go_wp2_with fail
  refine (risnfc_spec T t La Ba _ da w2 (HT.out.ext_ HB2.out) HIa.out).mono ?_
  rintro e w3 ⟨rfl, hb⟩
  replace HIa := Lib.hid (HIa.out.ext hb)
  have HB3 := Lib.hid (HB2.out.trans' hb)
  have rT3 : ∀ k : Nat, w3.cell? ⟨w1.heap.size, k, none⟩ = t.v.cells[k]? := box_at HB3.out
  clear hb HB2 rT2
  rcases h3 with h3 | h3 | h3
  ·
    have HN := Lib.hid (HP.out.1 h3)
    rw [HN.out]
    have HQ := Lib.hid h3
    clear h3
    go_wp2_with fail
    refine (quick_spec T t La Ba _ da w3 (HT.out.ext_ HB3.out) HIa.out).mono ?_
    rintro e w4 ⟨rfl, hb⟩
    rw [HQ.out]
    replace HIa := Lib.hid (HIa.out.ext hb)
    have HB4 := Lib.hid (HB3.out.trans' hb)
    have rT4 : ∀ k : Nat, w4.cell? ⟨w1.heap.size, k, none⟩ = t.v.cells[k]? := box_at HB4.out
    clear hb HB3 rT3
    go_wp2_with fail
    refine (c8awake_spec w4 (HG.out.ext (HB01.out.trans' HB4.out))).mono ?_
    rintro e w5 ⟨rfl, hb⟩
    replace HIa := Lib.hid (HIa.out.ext hb)
    have HB5 := Lib.hid (HB4.out.trans' hb)
    have rT5 : ∀ k : Nat, w5.cell? ⟨w1.heap.size, k, none⟩ = t.v.cells[k]? := box_at HB5.out
    clear hb HB4 rT4
    go_wp2_with fail
    refine (isnfc_spec T t La Ba _ da w5 (HT.out.ext_ HB5.out) HIa.out).mono ?_
    rintro e w6 ⟨rfl, hb⟩
    rw [HN.out]
    replace HIa := Lib.hid (HIa.out.ext hb)
    have HB6 := Lib.hid (HB5.out.trans' hb)
    have rT6 : ∀ k : Nat, w6.cell? ⟨w1.heap.size, k, none⟩ = t.v.cells[k]? := box_at HB6.out
    clear hb HB5 rT5
    have hb := HB01.out.trans' HB6.out
    go_wp2_with fail
    go_ret
    exact ⟨rfl, hb⟩
  ·
    have HN := Lib.hid (HP.out.2 h3)
    rw [HN.out]
    have HQ := Lib.hid h3
    clear h3
    go_wp2_with fail
    refine (quick_spec T t La Ba _ da w3 (HT.out.ext_ HB3.out) HIa.out).mono ?_
    rintro e w4 ⟨rfl, hb⟩
    rw [HQ.out]
    replace HIa := Lib.hid (HIa.out.ext hb)
    have HB4 := Lib.hid (HB3.out.trans' hb)
    have rT4 : ∀ k : Nat, w4.cell? ⟨w1.heap.size, k, none⟩ = t.v.cells[k]? := box_at HB4.out
    clear hb HB3 rT3
    go_wp2_with fail
    refine (c8awake_spec w4 (HG.out.ext (HB01.out.trans' HB4.out))).mono ?_
    rintro e w5 ⟨rfl, hb⟩
    replace HIa := Lib.hid (HIa.out.ext hb)
    have HB5 := Lib.hid (HB4.out.trans' hb)
    have rT5 : ∀ k : Nat, w5.cell? ⟨w1.heap.size, k, none⟩ = t.v.cells[k]? := box_at HB5.out
    clear hb HB4 rT4
    go_wp2_with fail
    refine (isnfc_spec T t La Ba _ da w5 (HT.out.ext_ HB5.out) HIa.out).mono ?_
    rintro e w6 ⟨rfl, hb⟩
    rw [HN.out]
    replace HIa := Lib.hid (HIa.out.ext hb)
    have HB6 := Lib.hid (HB5.out.trans' hb)
    have rT6 : ∀ k : Nat, w6.cell? ⟨w1.heap.size, k, none⟩ = t.v.cells[k]? := box_at HB6.out
    clear hb HB5 rT5
    have hb := HB01.out.trans' HB6.out
    go_wp2_with fail
    go_ret
    exact ⟨rfl, hb⟩
  ·
    have HQ := Lib.hid h3
    clear h3
    go_wp2_with fail
    refine (quick_spec T t La Ba _ da w3 (HT.out.ext_ HB3.out) HIa.out).mono ?_
    rintro e w4 ⟨rfl, hb⟩
    rw [HQ.out]
    replace HIa := Lib.hid (HIa.out.ext hb)
    have HB4 := Lib.hid (HB3.out.trans' hb)
    have rT4 : ∀ k : Nat, w4.cell? ⟨w1.heap.size, k, none⟩ = t.v.cells[k]? := box_at HB4.out
    clear hb HB3 rT3
    go_wp2_with fail
    refine (c8awake_spec w4 (HG.out.ext (HB01.out.trans' HB4.out))).mono ?_
    rintro e w5 ⟨rfl, hb⟩
    replace HIa := Lib.hid (HIa.out.ext hb)
    have HB5 := Lib.hid (HB4.out.trans' hb)
    have rT5 : ∀ k : Nat, w5.cell? ⟨w1.heap.size, k, none⟩ = t.v.cells[k]? := box_at HB5.out
    clear hb HB4 rT4
    have hb := HB01.out.trans' HB5.out
    go_wp2_with fail
    go_ret
    exact ⟨rfl, hb⟩
end Go.Proofs.YtcjkikbnjadmfaaGreatDoor
