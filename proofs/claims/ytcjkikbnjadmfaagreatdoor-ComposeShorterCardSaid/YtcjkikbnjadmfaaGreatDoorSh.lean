/- Walk: namedesklaw8.ComposeShorter. -/
import Derived.Test.YtcjkikbnjadmfaaGreatDoorGw
import Derived.Test.YtcjkikbnjadmfaaGreatDoorZk
import Derived.Test.YtcjkikbnjadmfaaGreatDoorGo
import Derived.Test.YtcjkikbnjadmfaaGreatDoorGx
import Derived.Test.YtcjkikbnjadmfaaGreatDoorGu
namespace Go.Proofs.YtcjkikbnjadmfaaGreatDoor
open Go.RowKit

/-- The letters that the law makes of a list of numbers. -/
def letGo : List Int → List Int → List Int
  | acc, [] => acc
  | acc, v :: r => if acc.length < 50 then letGo (acc ++ [97 + pickV v 26]) r else letGo acc r
theorem letGo_ok : ∀ (r acc : List Int), (∀ c ∈ acc, 97 ≤ c ∧ c ≤ 122) → acc.length ≤ 50 → (∀ c ∈ letGo acc r, 97 ≤ c ∧ c ≤ 122) ∧ (letGo acc r).length ≤ 50
  | [], acc, h, hl => ⟨h, hl⟩
  | v :: r, acc, h, hl => by
    rw [letGo]
    by_cases h5 : acc.length < 50
    · rw [if_pos h5]
      refine letGo_ok r _ (fun c hc => ?_) (by simp; omega)
      rcases List.mem_append.1 hc with hc | hc
      · exact h c hc
      · rw [List.mem_singleton] at hc
        have := pickV_bd v (n := 26) (by decide)
        omega
    · rw [if_neg h5]
      exact letGo_ok r acc h hl
def ShLoop (wb : World) (l L : List Int) (gh : Nat) (sl si : Value) (wx : World) : Prop :=
  ∃ (k : Nat) (A : Option Addr) (c : Nat) (acc : List Int), k + gh = l.length ∧ si = .int .i64 k ∧ sl = .slice A acc.length c ∧ Hid (OwnI wx wb.heap.size A acc.length c acc) ∧ Hid (Ext wb wx) ∧ Hid (L = letGo acc (l.drop k)) ∧ acc.length ≤ 50

set_option maxHeartbeats 6400000 in
set_option maxRecDepth 100000 in
theorem composeShorter_spec (l m : List Int) (Al : Option Addr) (nl cl : Nat) (Am : Option Addr) (nm cm : Nat) (w : World) (hl : IntS w ⟨Al, nl, cl⟩ l) (hm : IntS w ⟨Am, nm, cm⟩ m) (hg : Glob w) :
    Calls Tryz.prog 7 #[.slice Al nl cl, .slice Am nm cm] w fun e w' => e = .returned (.bool true) ∧ Ext w w' := by
  have HG := Lib.hid hg
  have Hl := Lib.hid hl
  have Hm := Lib.hid hm
  clear hg hl hm
  go_enter Tryz.func7, Tryz.ntmps7
  go_wp2_with fail
  refine Calls.mono (tables_spec l Al nl cl w Hl.out HG.out) ?_
  rintro e w1 ⟨t, rfl, ht, hb1⟩
  have hx1 : Ext w1 (w1.alloc (.cells t.v.cells 26)) := (Ext.refl _).alloc_ _
  have HT := Lib.hid (ht.ext_ hx1)
  have HB01 := Lib.hid (hb1.trans' hx1)
  clear ht hb1 hx1
  have hlm := denseL_len m
  have hm9 : m.length ≤ 9223372036854775807 := by have := Hm.out.len; omega
  have hmm := Hm.out.len.1
  subst hmm
  go_wp2_with fail
  refine Calls.mono (dense_spec m Am _ cm _ (Hm.out.ext HB01.out)) ?_
  rintro e w2 ⟨Ba, ma, da, rfl, hi, hb⟩
  have hm := hi.len.1
  subst hm
  have HB2 : Hid (Ext _ w2) := Lib.hid hb
  have rT2 : ∀ k : Nat, w2.cell? ⟨w1.heap.size, k, none⟩ = t.v.cells[k]? := box_at HB2.out
  clear hb
  have HIa := Lib.hid hi
  clear hi
  have HP := Lib.hid (twice_law (made_wf l) (dense_scal m) (by omega))
  have HQ := Lib.hid (letters_law l _ (letGo_ok m [] (fun c hc => by cases hc) (by simp)).1 (letGo_ok m [] (fun c hc => by cases hc) (by simp)).2)
  have HLG : Hid (letGo [] m = letGo [] (m.drop 0)) := rfl
  generalize denseL m = La at *
  generalize madeT l = T at *
  generalize letGo [] m = L at *
  clear hlm
  go_wp2_with fail
  refine (nfc_spec T t La Ba _ da w2 (HT.out.ext_ HB2.out) HIa.out).mono ?_
  rintro e w3 ⟨Bc, mc, dc, rfl, hb, hi⟩
  rw [nfcRes_ok (HP.out.1)] at hi
  rw [HP.out.1]
  have hm := hi.len.1
  subst hm
  replace HIa := Lib.hid (HIa.out.ext hb)
  have HB3 := Lib.hid (HB2.out.trans' hb)
  have rT3 : ∀ k : Nat, w3.cell? ⟨w1.heap.size, k, none⟩ = t.v.cells[k]? := box_at HB3.out
  clear hb HB2 rT2
  have HIc := Lib.hid hi
  clear hi
  go_wp2_with fail
  refine (rnfd_spec T t La Ba _ da w3 (HT.out.ext_ HB3.out) HIa.out).mono ?_
  rintro e w4 ⟨Bd, md, dd, rfl, hb, hi⟩
  rw [nfdRes_ok (HP.out.1)] at hi
  rw [HP.out.1]
  have hm := hi.len.1
  subst hm
  replace HIa := Lib.hid (HIa.out.ext hb)
  replace HIc := Lib.hid (HIc.out.ext hb)
  have HB4 := Lib.hid (HB3.out.trans' hb)
  have rT4 : ∀ k : Nat, w4.cell? ⟨w1.heap.size, k, none⟩ = t.v.cells[k]? := box_at HB4.out
  clear hb HB3 rT3
  have HId := Lib.hid hi
  clear hi
  have HLE : Hid ((nfcT T La).length ≤ (nfdT T La).length) := Lib.hid (nfc_len La)
  generalize nfcT T La = X at *
  generalize nfdT T La = Y at *
  go_wp2_with fail
  go_loopg [11, 32] m.length (fun gh sl si wx => ShLoop w4 m L gh sl si wx)
  case atStart => exact ⟨0, none, 0, [], by omega, rfl, rfl, Lib.hid (Own.nil_ _ _ _ _), Lib.hid (Ext.refl _), HLG, by simp⟩
  case round =>
    obtain ⟨k, A7, c7, acc, hkg, rfl, rfl, HO, HBL, HR, hla⟩ := hrel
    have HIM := Lib.hid (Hm.out.ext (HB01.out.trans' (HB4.out.trans' HBL.out)))
    have hz := HBL.out.b.size
    clear HLG
    by_cases hlt : k < m.length
    · obtain ⟨gk', rfl⟩ : ∃ g', gk = g' + 1 := ⟨gk - 1, by omega⟩
      obtain ⟨b, o, hA, hcx⟩ := HIM.out.at_ hlt
      subst hA
      have HD : Hid (m.drop k = m[k] :: m.drop (k + 1)) := drop_at m k hlt
      generalize m[k] = x at *
      have hk0 : (0 : Int) ≤ (k : Int) := Int.natCast_nonneg _
      have hk1 : (k : Int) < (m.length : Int) := by omega
      by_cases h5 : acc.length < 50
      · have hd : decide ((acc.length : Int) < 50) = true := decide_eq_true (by omega)
        have hd2 : decide (acc.length < 50) = true := decide_eq_true h5
        have HF : Hid (L = letGo (acc ++ [97 + pickV x 26]) (m.drop (k + 1))) := Lib.hid (by rw [HR.out, HD.out, letGo, if_pos h5])
        have hpv := pickV_bd x (n := 26) (by decide)
        have HPK := Lib.hid (kpick_spec x 26 (by decide) (by decide) wr)
        generalize pickV x 26 = p at *
        clear HD HR
        have hx4 : Ext wr (wr.alloc (.cells #[.int .i64 (97 + p)] 3)) := (Ext.refl _).alloc_ _
        obtain ⟨A5, c5, w5, hrun, hown5, hgr5, _⟩ := append_ints (Own.ext HO.out hx4) (one_int wr (97 + p)) (by omega) (by simp; omega)
        have HO5 := Lib.hid hown5
        have HB5 : Hid (Ext w4 w5) := Lib.hid (ext_of_grown (HBL.out.trans' hx4) hgr5 (fun k hk => (Own.lt HO.out k hk).1))
        clear hown5 hgr5 hx4
        go_wp2_with (first
          | (go_at_call 19; refine HPK.out.mono ?_; rintro e w6 ⟨rfl, rfl⟩)
          | (at_builtin; refine wpList_run_append rfl _ _ _ rfl _ _ rfl rfl _ _ hrun ?_))
        go_roundg gk'
        case measure => omega
        case rel => exact ⟨k + 1, A5, c5, acc ++ [97 + p], by omega, by go_num, by simp, by simpa using HO5, HB5, HF, by simp; omega⟩
      · have hd : decide ((acc.length : Int) < 50) = false := decide_eq_false (by omega)
        have hd2 : decide (acc.length < 50) = false := decide_eq_false h5
        have HF : Hid (L = letGo acc (m.drop (k + 1))) := Lib.hid (by rw [HR.out, HD.out, letGo, if_neg h5])
        clear HD HR
        go_wp2_with fail
        go_roundg gk'
        case measure => omega
        case rel => exact ⟨k + 1, A7, c7, acc, by omega, by go_num, rfl, HO, HBL, HF, hla⟩
    · have HF : Hid (L = acc) := Lib.hid (by rw [HR.out, drop_all m k (by omega)]; rfl)
      have HIl : Hid (IntS wr ⟨A7, acc.length, c7⟩ acc) := Lib.hid (OwnI.ints HO.out)
      have hle : decide ((X.length : Int) ≤ (Y.length : Int)) = true := decide_eq_true (by have := HLE.out; omega)
      have hle2 : decide (X.length ≤ Y.length) = true := decide_eq_true HLE.out
      have hbl := HBL.out
      rw [HF.out] at HQ
      clear HR HF HO
      have HB5 := Lib.hid (HB4.out.trans' hbl)
      have rT5 : ∀ k : Nat, wr.cell? ⟨w1.heap.size, k, none⟩ = t.v.cells[k]? := box_at HB5.out
      clear hbl HB4 rT4
      go_wp2_with fail
      refine (c8awake_spec wr (HG.out.ext (HB01.out.trans' HB5.out))).mono ?_
      rintro e w6 ⟨rfl, hb⟩
      replace HIl := Lib.hid (HIl.out.ext hb)
      have HB6 := Lib.hid (HB5.out.trans' hb)
      have rT6 : ∀ k : Nat, w6.cell? ⟨w1.heap.size, k, none⟩ = t.v.cells[k]? := box_at HB6.out
      clear hb HB5 rT5
      go_wp2_with fail
      refine (isnfc_spec T t acc A7 _ c7 w6 (HT.out.ext_ HB6.out) HIl.out).mono ?_
      rintro e w7 ⟨rfl, hb⟩
      rw [HQ.out.1]
      replace HIl := Lib.hid (HIl.out.ext hb)
      have HB7 := Lib.hid (HB6.out.trans' hb)
      have rT7 : ∀ k : Nat, w7.cell? ⟨w1.heap.size, k, none⟩ = t.v.cells[k]? := box_at HB7.out
      clear hb HB6 rT6
      go_wp2_with fail
      refine (quick_spec T t acc A7 _ c7 w7 (HT.out.ext_ HB7.out) HIl.out).mono ?_
      rintro e w8 ⟨rfl, hb⟩
      rw [HQ.out.2]
      replace HIl := Lib.hid (HIl.out.ext hb)
      have HB8 := Lib.hid (HB7.out.trans' hb)
      have rT8 : ∀ k : Nat, w8.cell? ⟨w1.heap.size, k, none⟩ = t.v.cells[k]? := box_at HB8.out
      clear hb HB7 rT7
      have hb := HB01.out.trans' HB8.out
      go_wp2_with fail
      go_ret
      exact ⟨rfl, hb⟩
end Go.Proofs.YtcjkikbnjadmfaaGreatDoor
