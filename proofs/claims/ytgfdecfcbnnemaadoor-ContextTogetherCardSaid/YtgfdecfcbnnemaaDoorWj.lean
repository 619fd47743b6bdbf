/- Walks: the last of a decomposition, Composable. -/
import Derived.Test.YtgfdecfcbnnemaaDoorWh
import Derived.Test.YtgfdecfcbnnemaaDoorQ
namespace Go.Proofs.YtgfdecfcbnnemaaDoor
open Go.RowKit

/-! Ranks: how deep a decomposition goes. -/
def FinD (D : List Mp) : Prop := ∀ c, szN D (D.length + 1) c ≤ 18
def rkD (D : List Mp) (c : Int) : Nat := ((List.range (D.length + 2)).find? fun k => decide (szN D k c ≤ 18)).getD 0

theorem szL_ge {f : Int → Int} (hf : ∀ d, 0 ≤ f d) : ∀ (l : List Int) (n : Int), 0 ≤ n → szL f n l ≤ 18 → n ≤ 18 ∨ l = []
  | [], _, _, _ => .inr rfl
  | d :: r, n, h0, h => by
    simp only [szL] at h
    by_cases hc : 18 < n + f d
    · rw [if_pos hc] at h; omega
    · have := hf d; left; omega
theorem szL_part {f : Int → Int} (hf : ∀ d, 0 ≤ f d) : ∀ (l : List Int) (n : Int), 0 ≤ n → szL f n l ≤ 18 → ∀ d ∈ l, f d ≤ 18
  | [], _, _, _ => by simp
  | d :: r, n, h0, h => by
    simp only [szL] at h
    by_cases hc : 18 < n + f d
    · rw [if_pos hc] at h; omega
    · rw [if_neg hc] at h
      intro x hx
      rcases List.mem_cons.1 hx with rfl | hx
      · have := hf x; omega
      · exact szL_part hf r _ (by have := hf d; omega) h x hx
theorem szN_step {D : List Mp} {k : Nat} {c : Int} (h : szN D k c ≤ 18) (hne : mpFind D c ≠ []) : ∃ k', k = k' + 1 ∧ ∀ d ∈ mpFind D c, szN D k' d ≤ 18 := by
  cases k with
  | zero => simp only [szN, if_neg hne] at h; omega
  | succ k =>
    simp only [szN, if_neg hne] at h
    exact ⟨k, rfl, szL_part (fun d => (szN_bd D k d).1) _ 0 (by omega) h⟩
theorem rkD_spec {D : List Mp} (hF : FinD D) (c : Int) : szN D (rkD D c) c ≤ 18 ∧ rkD D c ≤ D.length + 1 ∧ ∀ k, szN D k c ≤ 18 → rkD D c ≤ k := by
  unfold rkD
  have hm : ∃ k ∈ List.range (D.length + 2), decide (szN D k c ≤ 18) = true := ⟨D.length + 1, by simp, by simpa using hF c⟩
  cases hf : (List.range (D.length + 2)).find? fun k => decide (szN D k c ≤ 18) with
  | none =>
    rw [List.find?_eq_none] at hf
    obtain ⟨k, hk, hd⟩ := hm
    exact absurd hd (hf k hk)
  | some k =>
    have h1 := List.find?_some hf
    have h2 := List.mem_of_find?_eq_some hf
    simp only [decide_eq_true_eq] at h1
    simp only [List.mem_range] at h2
    refine ⟨h1, by simp only [Option.getD_some]; omega, fun k' hk' => ?_⟩
    simp only [Option.getD_some]
    rcases Nat.lt_or_ge k' k with hlt | hge
    · exfalso
      rw [List.find?_range_eq_some] at hf
      have := hf.2.2 k' hlt
      simp at this
      omega
    · exact hge
theorem rkD_step {D : List Mp} (hF : FinD D) {c d : Int} (hd : d ∈ mpFind D c) : rkD D d < rkD D c := by
  obtain ⟨h1, h2, h3⟩ := rkD_spec hF c
  obtain ⟨k', hk, hall⟩ := szN_step h1 (fun e => by rw [e] at hd; cases hd)
  have := (rkD_spec hF d).2.2 k' (hall d hd)
  omega
theorem lastN_stable {D : List Mp} : ∀ (k k' : Nat) (c : Int), szN D k c ≤ 18 → k ≤ k' → lastN D k' c = lastN D k c
  | 0, k', c, h, _ => by
    have he : mpFind D c = [] := by
      by_cases he : mpFind D c = []
      · exact he
      · simp only [szN, if_neg he] at h; omega
    cases k' with
    | zero => rfl
    | succ k' => simp only [lastN, he]
  | k + 1, k', c, h, hk => by
    obtain ⟨k2, rfl⟩ : ∃ k2, k' = k2 + 1 := ⟨k' - 1, by omega⟩
    simp only [lastN]
    cases he : mpFind D c with
    | nil => rfl
    | cons x r =>
      obtain ⟨k3, hk3, hall⟩ := szN_step h (by rw [he]; simp)
      obtain rfl : k3 = k := by omega
      refine lastN_stable k3 k2 _ (hall _ ?_) (by omega)
      rw [he]
      exact lastI_mem (by simp)
/-- The last of the full decomposition. -/
def lastT (D : List Mp) (c : Int) : Int := lastN D (D.length + 1) c
theorem lastT_nil {D : List Mp} {c : Int} (h : mpFind D c = []) : lastT D c = c := by unfold lastT; simp only [lastN, h]
theorem lastT_step {D : List Mp} (hF : FinD D) {c : Int} {x : Int} {r : List Int} (h : mpFind D c = x :: r) : lastT D c = lastT D (lastI (x :: r)) := by
  have hmem : lastI (x :: r) ∈ mpFind D c := by
    rw [h]
    exact lastI_mem (by simp)
  obtain ⟨h1, h2, _⟩ := rkD_spec hF (lastI (x :: r))
  have h3 := rkD_step hF hmem
  obtain ⟨_, h4, _⟩ := rkD_spec hF c
  have e1 : lastT D c = lastN D D.length (lastI (x :: r)) := by unfold lastT; simp only [lastN, h]
  rw [e1, lastN_stable _ D.length _ h1 (by omega)]
  unfold lastT
  rw [lastN_stable _ (D.length + 1) _ h1 (by omega)]

set_option maxHeartbeats 1600000 in
set_option maxRecDepth 100000 in
theorem last_spec (t : TV) (T : Tbl) (c : Int) (w : World) (ht : TblS w t T) (hs : Srt T) (hn : NonEs T) (hF : FinD T.dec) :
    Calls Tryd.prog 95 #[t.v, .int .i64 c] w fun e w' => e = .returned (.int .i64 (lastT T.dec c)) ∧ Ext w w' := by
  have HF := Lib.hid hF
  clear hF
  have hba : Ext w (w.alloc (.cells t.v.cells 26)) := (Ext.refl _).alloc_ _
  have hd := ht.dec
  go_enter Tryd.func95, Tryd.ntmps95
  go_wp2_with fail
  refine (find_spec T.dec _ _ _ c _ (hd.ext hba) hs.dec.1 hn.dec hs.dec.2).mono ?_
  rintro e w1 ⟨za, zn, zc, rfl, hz, hnil, hb1⟩
  have hb01 := hba.trans' hb1
  go_wp2_with fail
  go_loopw [1, 5] (fun cc s wr => ∃ (cur : Int) (A : Option Addr) (n q : Nat), cc = .int .i64 cur ∧ s = .slice A n q ∧ IntS wr ⟨A, n, q⟩ (mpFind T.dec cur) ∧ Hid (mpFind T.dec cur = [] → A = none ∧ q = 0) ∧ Hid (lastT T.dec c = lastT T.dec cur) ∧ Ext (w.alloc (.cells t.v.cells 26)) wr) (fun cc _ _ => rkD T.dec (intOf cc))
  case atStart => exact ⟨c, za, zn, zc, rfl, rfl, hz, hnil, rfl, hb1⟩
  case round =>
    obtain ⟨cur, A, n, q, rfl, rfl, hz2, hnil2, HL, hbr⟩ := hrel
    have hb0r := hba.trans' hbr
    rcases find_cases hz2 hnil2.out with ⟨he, rfl, rfl, rfl⟩ | ⟨b, o, he, rfl⟩
    · have HF2 := hid_trans HL (lastT_nil he)
      clear he hz2 hnil2 HL hz hnil
      go_wp2
      go_ret
      exact ⟨ret_int HF2.out.symm, hb0r⟩
    · obtain ⟨y, r, hyr⟩ : ∃ y r, mpFind T.dec cur = y :: r := by
        cases h : mpFind T.dec cur with
        | nil => exact absurd h he
        | cons y r => exact ⟨y, r, rfl⟩
      have HL2 := hid_trans HL (lastT_step HF.out hyr)
      have HRK : Hid (rkD T.dec (lastI (y :: r)) < rkD T.dec cur) := rkD_step HF.out (by rw [hyr]; exact lastI_mem (by simp))
      rw [hyr] at hz2
      clear he hnil2 HL hyr hz hnil
      have hlen : (y :: r).length - 1 < (y :: r).length := by simp
      generalize (y :: r) = l at *
      obtain ⟨hzn, _, _⟩ := hz2.len
      subst hzn
      obtain ⟨b5, o5, ha, g5⟩ := hz2.at_ (i := l.length - 1) hlen
      injection ha with ha
      injection ha with e1 e2
      subst e1 e2
      rw [← lastI_eq hlen] at g5
      generalize lastI l = z at *
      obtain ⟨m, hm⟩ : ∃ m, l.length = m + 1 := ⟨l.length - 1, by omega⟩
      rw [hm, Nat.add_sub_cancel] at g5
      rw [hm]
      have hx5 := hd.ext hb0r
      have hbx := tv_box hbr
      have hmm : m < 9223372036854775807 := by omega
      clear hlen hm
      go_wp2_with fail
      refine (find_spec T.dec _ _ _ z _ hx5 hs.dec.1 hn.dec hs.dec.2).mono ?_
      rintro e w3 ⟨ya, yn, yc, rfl, hy, hynil, hb3⟩
      have HY : Hid (mpFind T.dec z = [] → ya = none ∧ yc = 0) := hynil
      clear hynil
      go_wp2_with fail
      go_roundw
      case rel => exact ⟨z, ya, yn, yc, rfl, rfl, hy, HY, HL2, hbr.trans' hb3⟩
      case measure => simpa [intOf] using HRK.out

/-! Composable. -/
theorem rkD_lt {D : List Mp} (hF : FinD D) (c : Int) : rkD D c ≤ D.length + 1 := (rkD_spec hF c).2.1

/-- The value of a call of the look-up, in every later world. -/
abbrev FindAt (w : World) (s : SV) (c : Int) (z : SV) : Prop := ∀ w', Ext w w' → Calls Tryd.prog 87 #[.slice s.a s.n s.c, .int .i64 c] w' fun e w'' => e = .returned (.slice z.a z.n z.c) ∧ Ext w' w''

end Go.Proofs.YtgfdecfcbnnemaaDoor
