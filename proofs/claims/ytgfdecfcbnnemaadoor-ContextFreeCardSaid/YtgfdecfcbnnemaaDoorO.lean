/- Walks: slices.ContainsFunc, order.check, order.Sort, order.Order. -/
import Derived.Test.YtgfdecfcbnnemaaDoorCk
import Derived.Test.YtgfdecfcbnnemaaDoorApp
namespace Go.Proofs.YtgfdecfcbnnemaaDoor
open Go.RowKit

/-- The error of a sequence. -/
def ordErr (T : Tbl) (l : List Int) : Int := if wfB T = false then 2 else if 4096 < (l.length : Int) then 7 else if l.any (fun c => !scalarB c) then 3 else 0

def idxOf (p : Int → Bool) : Int → List Int → Int
  | _, [] => -1
  | i, x :: r => if p x = true then i else idxOf p (i + 1) r
theorem idxOf_ge (p : Int → Bool) : ∀ (l : List Int) (i : Int), 0 ≤ i → (0 ≤ idxOf p i l ↔ l.any p = true)
  | [], i, _ => by simp [idxOf]
  | x :: r, i, h => by
    simp only [idxOf, List.any_cons, Bool.or_eq_true]
    by_cases hx : p x = true
    · simp [hx, h]
    · rw [if_neg hx]
      have := idxOf_ge p r (i + 1) (by omega)
      simp [hx, this]

set_option maxHeartbeats 800000 in
set_option maxRecDepth 100000 in
theorem indexFunc_spec (f : FuncId) (caps : Array Value) (p : Int → Bool) (l : List Int) (A : Option Addr) (n c : Nat) (w : World) (h : IntS w ⟨A, n, c⟩ l)
    (hcall : ∀ args w, (callFunc f args).run Tryd.prog w = .ok (.enter f args) w)
    (hp : ∀ x ∈ l, ∀ w', Ext w w' → Calls Tryd.prog f (#[.int .i64 x] ++ caps) w' fun e w'' => e = .returned (.bool (p x)) ∧ Ext w' w'') :
    Calls Tryd.prog 61 #[.slice A n c, .func (.func f) #[] caps] w fun e w' => e = .returned (.int .i64 (idxOf p 0 l)) ∧ Ext w w' := by
  obtain ⟨hn, _, _⟩ := h.len
  subst hn
  have HP := Lib.hid hp
  clear hp
  go_enter Tryd.func61, Tryd.ntmps61
  go_wp2_with fail
  go_loopw [8] (fun i wr => ∃ (k : Nat), k ≤ l.length ∧ i = .int .i64 k ∧ Hid (idxOf p 0 l = idxOf p k (l.drop k)) ∧ Ext w wr) (fun i _ => l.length - (intOf i).toNat)
  case atStart => exact ⟨0, Nat.zero_le _, rfl, rfl, Ext.refl _⟩
  case round =>
    obtain ⟨k, hk, rfl, HR, hbr⟩ := hrel
    by_cases hlt : k < l.length
    · obtain ⟨b, o, ha, h0⟩ := (h.ext hbr).at_ hlt
      subst ha
      have HD : Hid (l.drop k = l[k] :: l.drop (k + 1)) := drop_at l k hlt
      have HM : Hid (l[k] ∈ l) := List.getElem_mem _
      generalize l[k] = x at *
      have HS := hid_trans HR (show _ = (if p x = true then (k : Int) else idxOf p ((k : Int) + 1) (l.drop (k + 1))) from by rw [HD.out]; rfl)
      clear HR HD
      go_wp2_with fail
      refine (HP.out x HM.out wr hbr).mono ?_
      rintro e w1 ⟨rfl, hb1⟩
      cases hv : p x
      · have HF := hid_trans HS (show _ = idxOf p ((k + 1 : Nat) : Int) (l.drop (k + 1)) from by rw [hv]; simp)
        clear HS hv
        go_wp2_with fail
        go_roundw
        case rel => exact ⟨k + 1, by omega, by go_num, HF, hbr.trans' hb1⟩
        case measure => simp [intOf]; omega
      · have HF := hid_trans HS (if_pos hv)
        clear HS hv
        go_wp2_with fail
        go_ret
        exact ⟨ret_int (by rw [HF.out]), hbr.trans' hb1⟩
    · have HF := hid_trans HR (show _ = (-1 : Int) from by rw [drop_all l k (by omega)]; rfl)
      clear HR
      go_wp2_with fail
      go_ret
      exact ⟨ret_int (by rw [HF.out]), hbr⟩

theorem containsFunc_spec (f : FuncId) (caps : Array Value) (p : Int → Bool) (l : List Int) (A : Option Addr) (n c : Nat) (w : World) (h : IntS w ⟨A, n, c⟩ l)
    (hcall : ∀ args w, (callFunc f args).run Tryd.prog w = .ok (.enter f args) w)
    (hp : ∀ x ∈ l, ∀ w', Ext w w' → Calls Tryd.prog f (#[.int .i64 x] ++ caps) w' fun e w'' => e = .returned (.bool (p x)) ∧ Ext w' w'') :
    Calls Tryd.prog 52 #[.slice A n c, .func (.func f) #[] caps] w fun e w' => e = .returned (.bool (l.any p)) ∧ Ext w w' := by
  have HP := Lib.hid hp
  clear hp
  have HI := Lib.hid (idxOf_ge p l 0 (by omega))
  go_enter Tryd.func52, Tryd.ntmps52
  go_wp2_with fail
  refine (indexFunc_spec f caps p l A n c w h hcall HP.out).mono ?_
  rintro e w1 ⟨rfl, hb1⟩
  generalize idxOf p 0 l = v at *
  go_wp2_with fail
  go_ret
  refine ⟨ret_bool ?_, hb1⟩
  rw [Bool.eq_iff_iff, ← HI.out]
  simp

theorem ordcheck1_spec (c : Int) (w : World) : Calls Tryd.prog 58 (#[.int .i64 c] ++ #[]) w fun e w' => e = .returned (.bool (!scalarB c)) ∧ Ext w w' := by
  have HU := Lib.hid (utfLen_eq_zero c)
  go_enter Tryd.func58, Tryd.ntmps58
  go_wp2_with (go_at_call 59; refine (length_spec _ _).mono ?_; rintro e w' ⟨rfl, rfl⟩)
  go_ret
  refine ⟨ret_bool ?_, Ext.refl _⟩
  have := HU.out
  cases hs : scalarB c
  · simp [this.2 hs]
  · have h0 : utfLen c ≠ 0 := fun h => by have := this.1 h; rw [hs] at this; cases this
    simp [h0]

set_option maxHeartbeats 800000 in
set_option maxRecDepth 100000 in
theorem ordcheck_spec (t : TV) (T : Tbl) (l : List Int) (A : Option Addr) (n c : Nat) (w : World) (ht : TblS w t T) (h : IntS w ⟨A, n, c⟩ l) :
    Calls Tryd.prog 49 #[t.v, .slice A n c] w fun e w' => e = .returned (.int .i64 (ordErr T l)) ∧ Ext w w' := by
  obtain ⟨hn, _, _⟩ := h.len
  subst hn
  have hba : Ext w (w.alloc (.cells t.v.cells 26)) := (Ext.refl _).alloc_ _
  have HT := Lib.hid (ht.ext_ hba)
  have HV : Hid (ordErr T l = if wfB T = false then 2 else if 4096 < (l.length : Int) then 7 else if l.any (fun c => !scalarB c) then 3 else 0) := rfl
  have HC := Lib.hid (checkNo_zero T)
  clear ht
  go_enter Tryd.func49, Tryd.ntmps49
  go_wp2_with fail
  refine (check_spec t T _ HT.out).mono ?_
  rintro e w1 ⟨rfl, hb1⟩
  have hb01 := hba.trans' hb1
  generalize checkNo T = v at *
  by_cases hv : v = 0
  · have hw : Hid (wfB T = true) := HC.out.1 hv
    subst hv
    have HS := hid_trans HV (show _ = (if 4096 < (l.length : Int) then 7 else if l.any (fun c => !scalarB c) then 3 else 0) from by rw [hw.out]; simp)
    clear HV HC
    by_cases hl : 4096 < l.length
    · have HF := hid_trans HS (if_pos (by omega))
      clear HS
      go_wp2_with fail
      go_ret
      exact ⟨ret_int (by rw [HF.out]), hb01⟩
    · have HS2 := hid_trans HS (if_neg (by omega))
      clear HS
      go_wp2_with fail
      refine (containsFunc_spec 58 #[] (fun c => !scalarB c) l _ _ _ _ (h.ext hb01) Tryd.call58 (fun x _ w' _ => ordcheck1_spec x w')).mono ?_
      rintro e w3 ⟨rfl, hb3⟩
      cases ha : l.any (fun c => !scalarB c)
      · have HF := hid_trans HS2 (show _ = (0 : Int) from by rw [ha]; rfl)
        clear HS2 ha
        go_wp2_with fail
        go_ret
        exact ⟨ret_int (by rw [HF.out]), hb01.trans' hb3⟩
      · have HF := hid_trans HS2 (show _ = (3 : Int) from by rw [ha]; rfl)
        clear HS2 ha
        go_wp2_with fail
        go_ret
        exact ⟨ret_int (by rw [HF.out]), hb01.trans' hb3⟩
  · have hw : wfB T = false := by
      cases h : wfB T with
      | false => rfl
      | true => exact absurd (HC.out.2 h) hv
    have HF := hid_trans HV (if_pos hw)
    have hvb : (v != 0) = true := by rw [bne_iff_ne]; exact hv
    clear HV HC hv hw
    go_wp2_with fail
    go_ret
    exact ⟨ret_int (by rw [HF.out]), hb01⟩
end Go.Proofs.YtgfdecfcbnnemaaDoor
