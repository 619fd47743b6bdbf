/- Walks: rules 6, 7 and 9. Walks: the last of a decomposition, Composable. -/
import Derived.Test.YtbdabjhankgcmaaGreatDoorGc
import Derived.Test.YtbdabjhankgcmaaGreatDoorGa
namespace Go.Proofs.YtbdabjhankgcmaaGreatDoor
open Go.RowKit
set_option maxHeartbeats 1600000 in
set_option maxRecDepth 100000 in
theorem excluded_spec (t : TV) (T : Tbl) (w : World) (ht : TblS w t T) (hs : Srt T) (hn : NonEs T) :
  Calls Tryz.prog 118 #[t.v] w fun e w' => e = .returned (.bool (excludedB T)) ∧ Ext w w' := by
 have HB : Hid (excludedB T = excL T.dec T.exc) := rfl
 obtain ⟨s0, s1, s2, s3, s4, s5, s6, s7, s8, ⟨A9, n9, c9⟩, ⟨A, n, cc⟩, s11⟩ := t
 have hx : IntS w ⟨A, n, cc⟩ T.exc := ht.exc
 have hd : MapS w ⟨A9, n9, c9⟩ T.dec := ht.dec
 clear ht
 generalize T.exc = l at *
 obtain ⟨hl, _, _⟩ := hx.len
 subst hl
 have hba : Ext w (w.alloc (.cells #[.slice s0.a s0.n s0.c, .slice s1.a s1.n s1.c, .slice s2.a s2.n s2.c, .slice s3.a s3.n s3.c, .slice s4.a s4.n s4.c, .slice s5.a s5.n s5.c, .slice s6.a s6.n s6.c, .slice s7.a s7.n s7.c, .slice s8.a s8.n s8.c, .slice A9 n9 c9, .slice A l.length cc, .slice s11.a s11.n s11.c] 26)) := (Ext.refl _).alloc_ _
 go_enter Tryz.func118, Tryz.ntmps118
 go_wp2_with fail
 go_loopw [8] (fun i wr => ∃ (k : Nat), k ≤ l.length ∧ i = .int .i64 k ∧ Hid (excludedB T = excL T.dec (l.drop k)) ∧
  Ext (w.alloc (.cells #[.slice s0.a s0.n s0.c, .slice s1.a s1.n s1.c, .slice s2.a s2.n s2.c, .slice s3.a s3.n s3.c, .slice s4.a s4.n s4.c, .slice s5.a s5.n s5.c, .slice s6.a s6.n s6.c, .slice s7.a s7.n s7.c, .slice s8.a s8.n s8.c, .slice A9 n9 c9, .slice A l.length cc, .slice s11.a s11.n s11.c] 26)) wr) (fun i _ => l.length - (intOf i).toNat)
 case atStart => exact ⟨0, Nat.zero_le _, rfl, HB, Ext.refl _⟩
 case round =>
  obtain ⟨k, hk, rfl, HR, hbr⟩ := hrel
  have hb0r := hba.trans' hbr
  by_cases hlt : k < l.length
  ·obtain ⟨b, o, ha, h0⟩ := (hx.ext hb0r).at_ hlt
   subst ha
   have HD : Hid (l.drop k = l[k] :: l.drop (k + 1)) := drop_at l k hlt
   generalize l[k] = x at *
   have hbx := box_at hbr
   have hzx : w.heap.size < wr.heap.size := by have := hbr.b.size; simp at this; omega
   have HS := hid_trans HR (show _ = (!(mpFind T.dec x).isEmpty && excL T.dec (l.drop (k + 1))) from by rw [HD.out]; rfl)
   clear HR HD HB
   go_wp2_with fail
   refine (find_spec T.dec _ _ _ x _ (hd.ext hb0r) hs.dec.1 hn.dec hs.dec.2).mono ?_
   rintro e w1 ⟨za, zn, zc, rfl, hz, hnil, hb1⟩
   rcases find_cases hz hnil with ⟨he, rfl, rfl, rfl⟩ | ⟨b', o', he, rfl⟩
   ·have HF := hid_trans HS (show _ = false from by rw [he]; rfl)
    clear HS he hz hnil
    go_wp2
    go_ret
    exact ⟨ret_bool HF.out.symm, hb0r.trans' hb1⟩
   ·have HF := hid_trans HS (show _ = excL T.dec (l.drop (k + 1)) from by simp [he])
    clear HS he hz hnil
    go_wp2
    go_roundw
    case rel => exact ⟨k + 1, by omega, by go_num, HF, hbr.trans' hb1⟩
    case measure => simp [intOf]; omega
  ·have HF := hid_trans HR (show _ = true from by rw [drop_all l k (by omega)]; rfl)
   clear HR HB
   go_wp2
   go_ret
   exact ⟨ret_bool HF.out.symm, hb0r⟩
set_option maxHeartbeats 1600000 in
set_option maxRecDepth 100000 in
theorem decomposed_spec (t : TV) (T : Tbl) (w : World) (ht : TblS w t T) (hs : Srt T) (hn : NonEs T) :
  Calls Tryz.prog 117 #[t.v] w fun e w' => e = .returned (.bool (decomposedB T)) ∧ Ext w w' := by
 have HB : Hid (decomposedB T = (decL T.dec && sizesL T.dec (T.dec.length + 1) T.dec)) := rfl
 obtain ⟨s0, s1, s2, s3, s4, s5, s6, s7, s8, ⟨A, n, cc⟩, s10, s11⟩ := t
 have hx : MapS w ⟨A, n, cc⟩ T.dec := ht.dec
 obtain ⟨Q, hQ⟩ : ∃ q, q = sizesL T.dec (T.dec.length + 1) := ⟨_, rfl⟩
 rw [← hQ] at HB
 have HQ := Lib.hid hQ
 clear hQ
 obtain ⟨l, hl0⟩ : ∃ l, l = T.dec := ⟨_, rfl⟩
 rw [← hl0] at HB hx
 have HL := Lib.hid hl0
 clear hl0
 obtain ⟨hl, _, _⟩ := hx.len
 subst hl
 have hba : Ext w (w.alloc (.cells #[.slice s0.a s0.n s0.c, .slice s1.a s1.n s1.c, .slice s2.a s2.n s2.c, .slice s3.a s3.n s3.c, .slice s4.a s4.n s4.c, .slice s5.a s5.n s5.c, .slice s6.a s6.n s6.c, .slice s7.a s7.n s7.c, .slice s8.a s8.n s8.c, .slice A l.length cc, .slice s10.a s10.n s10.c, .slice s11.a s11.n s11.c] 26)) := (Ext.refl _).alloc_ _
 go_enter Tryz.func117, Tryz.ntmps117
 go_wp2_with fail
 go_loopw [12] (fun i wr => ∃ (k : Nat), k ≤ l.length ∧ i = .int .i64 k ∧ Hid (decomposedB T = (decL (l.drop k) && Q l)) ∧
  Ext (w.alloc (.cells #[.slice s0.a s0.n s0.c, .slice s1.a s1.n s1.c, .slice s2.a s2.n s2.c, .slice s3.a s3.n s3.c, .slice s4.a s4.n s4.c, .slice s5.a s5.n s5.c, .slice s6.a s6.n s6.c, .slice s7.a s7.n s7.c, .slice s8.a s8.n s8.c, .slice A l.length cc, .slice s10.a s10.n s10.c, .slice s11.a s11.n s11.c] 26)) wr) (fun i _ => l.length - (intOf i).toNat)
 case atStart => exact ⟨0, Nat.zero_le _, rfl, HB, Ext.refl _⟩
 case round =>
  obtain ⟨k, hk, rfl, HR, hbr⟩ := hrel
  have hb0r := hba.trans' hbr
  by_cases hlt : k < l.length
  ·obtain ⟨b, o, za, zn, zc, ha, h0, h1, h2⟩ := (hx.ext hb0r).at_ hlt
   subst ha
   have HD : Hid (l.drop k = l[k] :: l.drop (k + 1)) := drop_at l k hlt
   generalize l[k] = x at *
   obtain ⟨xl, xt⟩ := x
   simp only at h0 h1 h2
   obtain ⟨hzn, _, _⟩ := h2.len
   subst hzn
   have hba2 : Ext wr (wr.alloc (.cells #[.int .i64 xl, .slice za xt.length zc] 74)) := (Ext.refl _).alloc_ _
   have h22 := h2.ext hba2
   have HS := hid_trans HR (show _ = (!decide (2 < (xt.length : Int)) && (decTo xt && (decL (l.drop (k + 1)) && Q l))) from by rw [HD.out]; simp [decL, Bool.and_assoc])
   clear HR HD HB h2
   by_cases hlen : 2 < xt.length
   ·have HF := hid_trans HS (show _ = false from by simp; intros; omega)
    clear HS
    go_wp2
    go_ret
    exact ⟨ret_bool HF.out.symm, hb0r.alloc_ _⟩
   ·have HS2 := hid_trans HS (show _ = (decTo xt && (decL (l.drop (k + 1)) && Q l)) from by simp; intros; omega)
    clear HS
    obtain ⟨wo, rfl⟩ : ∃ wo : World, wo = wr := ⟨_, rfl⟩
    go_wp2_with fail
    go_loopw [23] (fun i wi => ∃ (j : Nat), j ≤ xt.length ∧ i = .int .i64 j ∧ Hid (decomposedB T = (decTo (xt.drop j) && (decL (l.drop (k + 1)) && Q l))) ∧ wo.alloc (.cells #[.int .i64 xl, .slice za xt.length zc] 74) = wi) (fun i _ => xt.length - (intOf i).toNat)
    case atStart => exact ⟨0, Nat.zero_le _, rfl, HS2, rfl⟩
    case round =>
     obtain ⟨j, hj, rfl, HI, rfl⟩ := hrel
     by_cases hltj : j < xt.length
     ·obtain ⟨b5, o5, ha, g5⟩ := h22.at_ hltj
      subst ha
      have HJ : Hid (xt.drop j = xt[j] :: xt.drop (j + 1)) := drop_at xt j hltj
      generalize xt[j] = z at *
      have HZ := hid_trans HI (show _ = (!((z == 46) || syllB z || jamoB z) && (decTo (xt.drop (j + 1)) && (decL (l.drop (k + 1)) && Q l))) from by rw [HJ.out]; simp only [decTo, Bool.and_assoc]; rfl)
      clear HI HJ HS2
      cases hz : (z == 46)
      ·go_wp2_with (first
        | (go_at_call 157; refine (syllable_spec _ _).mono ?_; rintro e w' ⟨rfl, rfl⟩; cases hz1 : syllB z)
        | (go_at_call 158; refine (jamo_spec _ _).mono ?_; rintro e w' ⟨rfl, rfl⟩; cases hz2 : jamoB z))
       all_goals first
        | (go_ret; exact ⟨ret_bool (by rw [HZ.out]; simp [*]), hb0r.alloc_ _⟩)
        | (go_roundw
           case rel => exact ⟨j + 1, by omega, by go_num, hid_trans HZ (by simp [*]), by trivial⟩
           case measure => simp [intOf]; omega)
      ·have HF := hid_trans HZ (show _ = false from by rw [hz]; rfl)
       clear HZ
       go_wp2_with fail
       go_ret
       exact ⟨ret_bool HF.out.symm, hb0r.alloc_ _⟩
     ·have HF := hid_trans HI (show _ = (decL (l.drop (k + 1)) && Q l) from by rw [drop_all xt j (by omega)]; rfl)
      clear HI HS2
      go_wp2_with fail
      go_roundw
      case rel => exact ⟨k + 1, by omega, by go_num, HF, hbr.alloc_ _⟩
      case measure => simp [intOf]; omega
  ·have HF := hid_trans HR (show _ = sizesL T.dec (T.dec.length + 1) l from by rw [drop_all l k (by omega), HQ.out]; rfl)
   clear HR HB HQ
   have hbx := box_at hbr
   have hzx : w.heap.size < wr.heap.size := by have := hbr.b.size; simp at this; omega
   obtain ⟨wo, rfl⟩ : ∃ wo : World, wo = wr := ⟨_, rfl⟩
   go_wp2_with fail
   go_loopw [42] (fun i wi => ∃ (j : Nat), j ≤ l.length ∧ i = .int .i64 j ∧ Hid (decomposedB T = sizesL T.dec (T.dec.length + 1) (l.drop j)) ∧ Ext wo wi) (fun i _ => l.length - (intOf i).toNat)
   case atStart => exact ⟨0, Nat.zero_le _, rfl, HF, Ext.refl _⟩
   case round =>
    obtain ⟨j, hj, rfl, HI, hbi⟩ := hrel
    have hb0i := hb0r.trans' hbi
    by_cases hltj : j < l.length
    ·obtain ⟨b, o, za, zn, zc, ha, h0, h1, h2⟩ := (hx.ext hb0i).at_ hltj
     subst ha
     have HD : Hid (l.drop j = l[j] :: l.drop (j + 1)) := drop_at l j hltj
     generalize l[j] = x at *
     obtain ⟨xl, xt⟩ := x
     simp only at h0 h1 h2
     have hbx2 := box_at (hbr.trans' hbi)
     have hzx2 : w.heap.size < wr.heap.size := by have := hbi.b.size; omega
     have hti := Lib.hid (ht.ext_ (hb0i.alloc_ (.cells #[.int .i64 xl, .slice za zn zc] 74)))
     have HS := hid_trans HI (show _ = (!decide (18 < szN T.dec (T.dec.length + 1) xl) && sizesL T.dec (T.dec.length + 1) (l.drop (j + 1))) from by rw [HD.out]; rfl)
     have HK : Hid ((0 : Int) + ((T.dec.length + 1 : Nat) : Int) = T.dec.length + 1) := Lib.hid (by omega)
     clear hbx HI HD HF h2
     go_wp2_with fail
     refine (size_spec T hs hn (T.dec.length + 1) _ xl 0 _ HK.out (by omega) hti.out).mono ?_
     rintro e w3 ⟨rfl, hb3⟩
     generalize szN T.dec (T.dec.length + 1) xl = v at *
     have hbi3 := (hbi.alloc_ (.cells #[.int .i64 xl, .slice za zn zc] 74)).trans' hb3
     by_cases hv : 18 < v
     ·have HF := hid_trans HS (show _ = false from by simp [hv])
      clear HS
      go_wp2
      go_ret
      exact ⟨ret_bool HF.out.symm, hb0r.trans' hbi3⟩
     ·have HF := hid_trans HS (show _ = sizesL T.dec (T.dec.length + 1) (l.drop (j + 1)) from by simp; intros; omega)
      clear HS
      go_wp2
      go_roundw
      case rel => exact ⟨j + 1, by omega, by go_num, HF, hbi3⟩
      case measure => simp [intOf]; omega
    ·have HF2 := hid_trans HI (show _ = true from by rw [drop_all l j (by omega)]; rfl)
     clear HI HF
     go_wp2
     go_ret
     exact ⟨ret_bool HF2.out.symm, hb0i⟩
end Go.Proofs.YtbdabjhankgcmaaGreatDoor
namespace Go.Proofs.YtbdabjhankgcmaaGreatDoor
open Go.RowKit
def FinD (D : List Mp) : Prop := ∀ c, szN D (D.length + 1) c ≤ 18
def rkD (D : List Mp) (c : Int) : Nat := ((List.range (D.length + 2)).find? fun k => decide (szN D k c ≤ 18)).getD 0
theorem szL_ge {f : Int → Int} (hf : ∀ d, 0 ≤ f d) : ∀ (l : List Int) (n : Int), 0 ≤ n → szL f n l ≤ 18 → n ≤ 18 ∨ l = []
 | [], _, _, _ => .inr rfl
 | d :: r, n, h0, h => by
  simp only [szL] at h
  by_cases hc : 18 < n + f d
  ·rw [if_pos hc] at h; omega
  ·have := hf d; left; omega
theorem szL_part {f : Int → Int} (hf : ∀ d, 0 ≤ f d) : ∀ (l : List Int) (n : Int), 0 ≤ n → szL f n l ≤ 18 → ∀ d ∈ l, f d ≤ 18
 | [], _, _, _ => by simp
 | d :: r, n, h0, h => by
  simp only [szL] at h
  by_cases hc : 18 < n + f d
  ·rw [if_pos hc] at h; omega
  ·rw [if_neg hc] at h
   intro x hx
   rcases List.mem_cons.1 hx with rfl | hx
   ·have := hf x; omega
   ·exact szL_part hf r _ (by have := hf d; omega) h x hx
theorem szN_step {D : List Mp} {k : Nat} {c : Int} (h : szN D k c ≤ 18) (hne : mpFind D c ≠ []) : ∃ k', k = k' + 1 ∧ ∀ d ∈ mpFind D c, szN D k' d ≤ 18 := by
 cases k with
 | zero => simp only [szN, if_neg hne] at h; omega
 | succ k =>
  simp only [szN, if_neg hne] at h
  exact ⟨k, rfl, szL_part (fun d => (szN_bd D k d).1) _ 0 (by omega) h⟩
theorem rkD_spec {D : List Mp} (hF : FinD D) (c : Int) : szN D (rkD D c) c ≤ 18 ∧ rkD D c ≤ D.length + 1 ∧ ∀ k, szN D k c ≤ 18 → rkD D c ≤ k := by
 unfold rkD
 have hm : ∃ k ∈ List.range (D.length + 2), decide (szN D k c ≤ 18) = true := ⟨D.length + 1, by simp, by simpa using hF c⟩
 cases hf : (List.range (D.length + 2)).find? fun k => decide (szN D k c ≤ 18) with
 | none =>
  rw [List.find?_eq_none] at hf
  obtain ⟨k, hk, hd⟩ := hm
  exact absurd hd (hf k hk)
 | some k =>
  have h1 := List.find?_some hf
  have h2 := List.mem_of_find?_eq_some hf
  simp only [decide_eq_true_eq] at h1
  simp only [List.mem_range] at h2
  refine ⟨h1, by simp only [Option.getD_some]; omega, fun k' hk' => ?_⟩
  simp only [Option.getD_some]
  rcases Nat.lt_or_ge k' k with hlt | hge
  ·exfalso
   rw [List.find?_range_eq_some] at hf
   have := hf.2.2 k' hlt
   simp at this
   omega
  ·exact hge
theorem rkD_step {D : List Mp} (hF : FinD D) {c d : Int} (hd : d ∈ mpFind D c) : rkD D d < rkD D c := by
 obtain ⟨h1, h2, h3⟩ := rkD_spec hF c
 obtain ⟨k', hk, hall⟩ := szN_step h1 (fun e => by rw [e] at hd; cases hd)
 have := (rkD_spec hF d).2.2 k' (hall d hd)
 omega
theorem lastN_stable {D : List Mp} : ∀ (k k' : Nat) (c : Int), szN D k c ≤ 18 → k ≤ k' → lastN D k' c = lastN D k c
 | 0, k', c, h, _ => by
  have he : mpFind D c = [] := by
   by_cases he : mpFind D c = []
   ·exact he
   ·simp only [szN, if_neg he] at h; omega
  cases k' with
  | zero => rfl
  | succ k' => simp only [lastN, he]
 | k + 1, k', c, h, hk => by
  obtain ⟨k2, rfl⟩ : ∃ k2, k' = k2 + 1 := ⟨k' - 1, by omega⟩
  simp only [lastN]
  cases he : mpFind D c with
  | nil => rfl
  | cons x r =>
   obtain ⟨k3, hk3, hall⟩ := szN_step h (by rw [he]; simp)
   obtain rfl : k3 = k := by omega
   refine lastN_stable k3 k2 _ (hall _ ?_) (by omega)
   rw [he]
   exact lastI_mem (by simp)
def lastT (D : List Mp) (c : Int) : Int := lastN D (D.length + 1) c
theorem lastT_nil {D : List Mp} {c : Int} (h : mpFind D c = []) : lastT D c = c := by unfold lastT; simp only [lastN, h]
theorem lastT_step {D : List Mp} (hF : FinD D) {c : Int} {x : Int} {r : List Int} (h : mpFind D c = x :: r) : lastT D c = lastT D (lastI (x :: r)) := by
 have hmem : lastI (x :: r) ∈ mpFind D c := by
  rw [h]
  exact lastI_mem (by simp)
 obtain ⟨h1, h2, _⟩ := rkD_spec hF (lastI (x :: r))
 have h3 := rkD_step hF hmem
 obtain ⟨_, h4, _⟩ := rkD_spec hF c
 have e1 : lastT D c = lastN D D.length (lastI (x :: r)) := by unfold lastT; simp only [lastN, h]
 rw [e1, lastN_stable _ D.length _ h1 (by omega)]
 unfold lastT
 rw [lastN_stable _ (D.length + 1) _ h1 (by omega)]
set_option maxHeartbeats 1600000 in
set_option maxRecDepth 100000 in
theorem last_spec (t : TV) (T : Tbl) (c : Int) (w : World) (ht : TblS w t T) (hs : Srt T) (hn : NonEs T) (hF : FinD T.dec) :
  Calls Tryz.prog 148 #[t.v, .int .i64 c] w fun e w' => e = .returned (.int .i64 (lastT T.dec c)) ∧ Ext w w' := by
 have HF := Lib.hid hF
 clear hF
 have hba : Ext w (w.alloc (.cells t.v.cells 26)) := (Ext.refl _).alloc_ _
 have hd := ht.dec
 go_enter Tryz.func148, Tryz.ntmps148
 go_wp2_with fail
 refine (find_spec T.dec _ _ _ c _ (hd.ext hba) hs.dec.1 hn.dec hs.dec.2).mono ?_
 rintro e w1 ⟨za, zn, zc, rfl, hz, hnil, hb1⟩
 have hb01 := hba.trans' hb1
 go_wp2_with fail
 go_loopw [1, 5] (fun cc s wr => ∃ (cur : Int) (A : Option Addr) (n q : Nat), cc = .int .i64 cur ∧ s = .slice A n q ∧ IntS wr ⟨A, n, q⟩ (mpFind T.dec cur) ∧ Hid (mpFind T.dec cur = [] → A = none ∧ q = 0) ∧ Hid (lastT T.dec c = lastT T.dec cur) ∧ Ext (w.alloc (.cells t.v.cells 26)) wr) (fun cc _ _ => rkD T.dec (intOf cc))
 case atStart => exact ⟨c, za, zn, zc, rfl, rfl, hz, hnil, rfl, hb1⟩
 case round =>
  obtain ⟨cur, A, n, q, rfl, rfl, hz2, hnil2, HL, hbr⟩ := hrel
  have hb0r := hba.trans' hbr
  rcases find_cases hz2 hnil2.out with ⟨he, rfl, rfl, rfl⟩ | ⟨b, o, he, rfl⟩
  ·have HF2 := hid_trans HL (lastT_nil he)
   clear he hz2 hnil2 HL hz hnil
   go_wp2
   go_ret
   exact ⟨ret_int HF2.out.symm, hb0r⟩
  ·obtain ⟨y, r, hyr⟩ : ∃ y r, mpFind T.dec cur = y :: r := by
    cases h : mpFind T.dec cur with
    | nil => exact absurd h he
    | cons y r => exact ⟨y, r, rfl⟩
   have HL2 := hid_trans HL (lastT_step HF.out hyr)
   have HRK : Hid (rkD T.dec (lastI (y :: r)) < rkD T.dec cur) := rkD_step HF.out (by rw [hyr]; exact lastI_mem (by simp))
   rw [hyr] at hz2
   clear he hnil2 HL hyr hz hnil
   have hlen : (y :: r).length - 1 < (y :: r).length := by simp
   generalize (y :: r) = l at *
   obtain ⟨hzn, _, _⟩ := hz2.len
   subst hzn
   obtain ⟨b5, o5, ha, g5⟩ := hz2.at_ (i := l.length - 1) hlen
   injection ha with ha
   injection ha with e1 e2
   subst e1 e2
   rw [← lastI_eq hlen] at g5
   generalize lastI l = z at *
   obtain ⟨m, hm⟩ : ∃ m, l.length = m + 1 := ⟨l.length - 1, by omega⟩
   rw [hm, Nat.add_sub_cancel] at g5
   rw [hm]
   have hx5 := hd.ext hb0r
   have hbx := tv_box hbr
   have hmm : m < 9223372036854775807 := by omega
   clear hlen hm
   go_wp2_with fail
   refine (find_spec T.dec _ _ _ z _ hx5 hs.dec.1 hn.dec hs.dec.2).mono ?_
   rintro e w3 ⟨ya, yn, yc, rfl, hy, hynil, hb3⟩
   have HY : Hid (mpFind T.dec z = [] → ya = none ∧ yc = 0) := hynil
   clear hynil
   go_wp2_with fail
   go_roundw
   case rel => exact ⟨z, ya, yn, yc, rfl, rfl, hy, HY, HL2, hbr.trans' hb3⟩
   case measure => simpa [intOf] using HRK.out
theorem rkD_lt {D : List Mp} (hF : FinD D) (c : Int) : rkD D c ≤ D.length + 1 := (rkD_spec hF c).2.1
abbrev FindAt (w : World) (s : SV) (c : Int) (z : SV) : Prop := ∀ w', Ext w w' → Calls Tryz.prog 146 #[.slice s.a s.n s.c, .int .i64 c] w' fun e w'' => e = .returned (.slice z.a z.n z.c) ∧ Ext w' w''
end Go.Proofs.YtbdabjhankgcmaaGreatDoor
