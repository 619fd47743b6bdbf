/- Walks: sort.Search over any predicate; look-ups in spans, mappings and numbers. -/
import Derived.Test.YtgfdecfcbnnemaaDoorMem
import Derived.Outline
namespace Go.Proofs.YtgfdecfcbnnemaaDoor
open Go.RowKit

set_option maxHeartbeats 800000 in
set_option maxRecDepth 100000 in
theorem search_spec (f : FuncId) (caps : Array Value) (n : Nat) (p : Nat → Bool) (w : World) (hn : n ≤ 4611686018427387904)
    (hcall : ∀ args w, (callFunc f args).run Tryd.prog w = .ok (.enter f args) w)
    (hp : ∀ i, i < n → ∀ w', Ext w w' → Calls Tryd.prog f (#[.int .i64 i] ++ caps) w' fun e w'' => e = .returned (.bool (p i)) ∧ Ext w' w'') :
    Calls Tryd.prog 62 #[.int .i64 n, .func (.func f) #[] caps] w fun e w' => ∃ i : Nat, e = .returned (.int .i64 i) ∧ i ≤ n ∧ (i < n → p i = true) ∧ (0 < i → p (i - 1) = false) ∧ Ext w w' := by
  have HP := Lib.hid hp
  clear hp
  go_enter Tryd.func62, Tryd.ntmps62
  go_wp2
  go_loopw [5, 6] (fun a b wr => ∃ (i j : Nat), i ≤ j ∧ j ≤ n ∧ a = .int .i64 i ∧ b = .int .i64 j ∧ Hid (j < n → p j = true) ∧ Hid (0 < i → p (i - 1) = false) ∧ Ext w wr) (fun a b _ => (intOf b).toNat - (intOf a).toNat)
  case atStart => exact ⟨0, n, Nat.zero_le _, Nat.le_refl _, rfl, rfl, fun h => absurd h (by omega), fun h => absurd h (by omega), Ext.refl _⟩
  case round =>
    obtain ⟨i, j, hij, hj, rfl, rfl, HJ, HI, hb⟩ := hrel
    by_cases hlt : i < j
    · go_wp2
      obtain ⟨m, hm⟩ : ∃ m : Nat, m = (i + j) / 2 := ⟨_, rfl⟩
      rw [show ((i : Int) + j) / 2 = (m : Int) from by omega]
      have hm1 : i ≤ m := by omega
      have hm2 : m < j := by omega
      clear hm
      refine (HP.out m (by omega) wr hb).mono ?_
      rintro e w1 ⟨rfl, hb1⟩
      have hb2 := hb.trans' hb1
      cases hpm : p m
      · have HM := Lib.hid hpm
        clear hpm
        go_wp2
        go_roundw
        case rel => exact ⟨m + 1, j, by omega, hj, by go_num, rfl, HJ, fun _ => by simpa using HM.out, hb2⟩
        case measure => simp [intOf]; omega
      · have HM := Lib.hid hpm
        clear hpm
        go_wp2
        go_roundw
        case rel => exact ⟨i, m, by omega, by omega, rfl, rfl, fun _ => HM.out, HI, hb2⟩
        case measure => simp [intOf]; omega
    · go_wp2
      go_ret
      exact ⟨i, rfl, by omega, fun h => HJ.out (by omega) ▸ (by rw [show i = j from by omega]), HI.out, hb⟩

/-! The look-up of a value in spans. -/
theorem value1_spec (l : List Sp) (A : Option Addr) (n cap : Nat) (i : Nat) (c : Int) (pl pc : Addr) (w : World) (hi : i < l.length)
    (hpl : w.cell? pl = some (.slice A n cap)) (hpc : w.cell? pc = some (.int .i64 c)) (hs : SpanS w ⟨A, n, cap⟩ l) :
    Calls Tryd.prog 63 (#[.int .i64 i] ++ #[.pointer (some pl), .pointer (some pc)]) w fun e w' => e = .returned (.bool (decide (c ≤ l[i].hi))) ∧ Ext w w' := by
  obtain ⟨hn, hnc, hcm⟩ := hs.len
  subst hn
  obtain ⟨b, o, ha, h0, h1, h2⟩ := hs.at_ hi
  subst ha
  have hi0 : (0 : Int) ≤ (i : Int) := Int.natCast_nonneg _
  have hi1 : (i : Int) < (l.length : Int) := by omega
  generalize l[i].hi = z at *
  go_enter Tryd.func63, Tryd.ntmps63
  go_wp2
  go_quiet (fail)
  go_wp2
  go_ret
  exact ⟨rfl, (Ext.refl _).drewN_ _⟩

set_option maxHeartbeats 400000 in
theorem value_spec (l : List Sp) (A : Option Addr) (n cap : Nat) (c : Int) (w : World) (hs : SpanS w ⟨A, n, cap⟩ l) (hsort : SpSorted l) (hlen : l.length ≤ 256) :
    Calls Tryd.prog 56 #[.slice A n cap, .int .i64 c] w fun e w' => e = .returned (.int .i64 (spFind l c)) ∧ Ext w w' := by
  obtain ⟨hn, hnc, hcm⟩ := hs.len
  subst hn
  go_enter Tryd.func56, Tryd.ntmps56
  go_wp2_with fail
  refine (search_spec 63 _ l.length (fun i => decide (c ≤ (l.getD i ⟨0, 0, 0⟩).hi)) _ (by omega) Tryd.call63 ?_).mono ?_
  · intro i hi w' hb
    have hb0 : Ext w w' := (((Ext.refl w).alloc_ _).alloc_ _).trans' hb
    rw [getD_lt l i _ hi]
    exact value1_spec l A l.length cap i c _ _ w' hi (keep_cell (ext_keep hb) (box2a _ _ _ _)) (keep_cell (ext_keep hb) (box2b _ _ _ _)) (hs.ext hb0)
  · rintro e w1 ⟨i, rfl, hi, h1, h0, hb⟩
    have hb0 : Ext w w1 := (((Ext.refl w).alloc_ _).alloc_ _).trans' hb
    have HF := Lib.hid (spFind_search hsort (c := c) hi (fun h => by have h' := h1 h; simp only [getD_lt l i _ h] at h'; simpa using h') (fun h => by have h' := h0 h; simp only [getD_lt l (i - 1) _ (by omega)] at h'; simpa using h'))
    obtain ⟨hc, hf⟩ := bcell hb.b
    clear h1 h0
    by_cases hlt : i < l.length
    · have hne : ((i : Int) == (l.length : Int)) = false := by rw [beq_eq_false_iff_ne]; omega
      obtain ⟨b, o, ha, h0, h1, h2⟩ := (hs.ext hb0).at_ hlt
      subst ha
      have HV : Hid (spFind l c = if c < l[i].lo then 0 else l[i].val) := by have h := HF.out; rw [dif_pos hlt] at h; exact h
      clear HF
      have hi0 : (0 : Int) ≤ (i : Int) := Int.natCast_nonneg _
      have hi1 : (i : Int) < (l.length : Int) := by omega
      generalize l[i] = x at *
      obtain ⟨xl, xh, xv⟩ := x
      simp only at h0 h1 h2 HV
      go_wp2
      go_quiet (fail)
      go_wp2
      · go_ret
        exact ⟨ret_int (by rw [HV.out, if_pos (by assumption)]), hb0.drewN_ _⟩
      · go_ret
        exact ⟨ret_int (by rw [HV.out, if_neg (by omega)]), hb0.drewN_ _⟩
    · obtain rfl : i = l.length := by omega
      have HV : Hid (spFind l c = 0) := by have h := HF.out; rw [dif_neg hlt] at h; exact h
      clear HF
      go_wp2
      go_quiet (fail)
      go_wp2
      go_ret
      exact ⟨ret_int (by rw [HV.out]), hb0.drewN_ _⟩

/-! The look-up in mappings. -/
theorem find1_spec (l : List Mp) (A : Option Addr) (n cap : Nat) (i : Nat) (c : Int) (pl pc : Addr) (w : World) (hi : i < l.length)
    (hpl : w.cell? pl = some (.slice A n cap)) (hpc : w.cell? pc = some (.int .i64 c)) (hs : MapS w ⟨A, n, cap⟩ l) :
    Calls Tryd.prog 93 (#[.int .i64 i] ++ #[.pointer (some pl), .pointer (some pc)]) w fun e w' => e = .returned (.bool (decide (c ≤ l[i].lo))) ∧ Ext w w' := by
  obtain ⟨hn, hnc, hcm⟩ := hs.len
  subst hn
  obtain ⟨b, o, za, zn, zc, ha, h0, h1, h2⟩ := hs.at_ hi
  subst ha
  have hi0 : (0 : Int) ≤ (i : Int) := Int.natCast_nonneg _
  have hi1 : (i : Int) < (l.length : Int) := by omega
  clear h1 h2
  generalize l[i].lo = z at *
  go_enter Tryd.func93, Tryd.ntmps93
  go_wp2
  go_quiet (fail)
  go_wp2
  go_ret
  exact ⟨rfl, (Ext.refl _).drewN_ _⟩

theorem mpHas_none {l : List Mp} {c : Int} (h : mpHas l c = false) : ∀ i (hi : i < l.length), l[i].lo ≠ c := by
  intro i hi he
  simp only [mpHas, List.any_eq_false, decide_eq_true_eq] at h
  exact h l[i] (by simp) he

set_option maxHeartbeats 400000 in
/-- The look-up hands back the very slice that the list holds. -/
theorem find_val (l : List Mp) (A : Option Addr) (n cap : Nat) (c : Int) (w : World) (za : Option Addr) (zn zc : Nat) (hs : MapS w ⟨A, n, cap⟩ l) (hsort : MpSorted l) (hlen : l.length ≤ 256)
    (hv : ∀ i b o (hi : i < l.length), A = some ⟨b, o, none⟩ → l[i].lo = c → w.cell? ⟨b, o + i * 2 + 1, none⟩ = some (.slice za zn zc))
    (hv0 : (∀ i (hi : i < l.length), l[i].lo ≠ c) → za = none ∧ zn = 0 ∧ zc = 0) :
    Calls Tryd.prog 87 #[.slice A n cap, .int .i64 c] w fun e w' => e = .returned (.slice za zn zc) ∧ Ext w w' := by
  obtain ⟨hn, hnc, hcm⟩ := hs.len
  subst hn
  have HV := Lib.hid hv
  have HV0 := Lib.hid hv0
  clear hv hv0
  go_enter Tryd.func87, Tryd.ntmps87
  go_wp2_with fail
  refine (search_spec 93 _ l.length (fun i => decide (c ≤ (l.getD i ⟨0, []⟩).lo)) _ (by omega) Tryd.call93 ?_).mono ?_
  · intro i hi w' hb
    have hb0 : Ext w w' := (((Ext.refl w).alloc_ _).alloc_ _).trans' hb
    rw [getD_lt l i _ hi]
    exact find1_spec l A l.length cap i c _ _ w' hi (keep_cell (ext_keep hb) (box2a _ _ _ _)) (keep_cell (ext_keep hb) (box2b _ _ _ _)) (hs.ext hb0)
  · rintro e w1 ⟨i, rfl, hi, h1, h0, hb⟩
    have hb0 : Ext w w1 := (((Ext.refl w).alloc_ _).alloc_ _).trans' hb
    have HF := Lib.hid (mpFind_search hsort (c := c) hi (fun h => by have h' := h1 h; simp only [getD_lt l i _ h] at h'; simpa using h') (fun h => by have h' := h0 h; simp only [getD_lt l (i - 1) _ (by omega)] at h'; simpa using h')).2
    obtain ⟨hc, hf⟩ := bcell hb.b
    clear h1 h0
    by_cases hlt : i < l.length
    · have hne : ((i : Int) == (l.length : Int)) = false := by rw [beq_eq_false_iff_ne]; omega
      obtain ⟨b, o, ya, yn, yc, ha, h0, h1, h2⟩ := (hs.ext hb0).at_ hlt
      have HVI := Lib.hid fun h => keep_cell (ext_keep hb0) (HV.out i b o hlt ha h)
      subst ha
      have HW : Hid (mpHas l c = decide (l[i].lo = c)) := by have h := HF.out; rw [dif_pos hlt] at h; exact h
      clear HF HV h2
      have hi0 : (0 : Int) ≤ (i : Int) := Int.natCast_nonneg _
      have hi1 : (i : Int) < (l.length : Int) := by omega
      generalize l[i].lo = xl at *
      by_cases hxc : xl = c
      · subst hxc
        have e := h1.symm.trans (HVI.out rfl)
        injection e with e
        injection e with e1 e2 e3
        subst e1 e2 e3
        clear HVI HW HV0
        go_wp2
        go_quiet (fail)
        go_wp2
        go_ret
        exact ⟨rfl, hb0.drewN_ _⟩
      · obtain ⟨rfl, rfl, rfl⟩ := HV0.out (mpHas_none (by rw [HW.out]; simpa using hxc))
        have hxb : (xl != c) = true := by rw [bne_iff_ne]; exact hxc
        clear HVI HW HV0
        go_wp2
        go_quiet (fail)
        go_wp2
        go_ret
        exact ⟨rfl, hb0.drewN_ _⟩
    · obtain rfl : i = l.length := by omega
      obtain ⟨rfl, rfl, rfl⟩ := HV0.out (mpHas_none (by have h := HF.out; rw [dif_neg hlt] at h; exact h))
      clear HF HV HV0
      go_wp2
      go_quiet (fail)
      go_wp2
      go_ret
      exact ⟨rfl, hb0.drewN_ _⟩

/-- One slice for every later world. -/
theorem find_det (l : List Mp) (A : Option Addr) (n cap : Nat) (c : Int) (w : World) (hs : MapS w ⟨A, n, cap⟩ l) (hsort : MpSorted l) (hlen : l.length ≤ 256) :
    ∃ za zn zc, IntS w ⟨za, zn, zc⟩ (mpFind l c) ∧ (mpHas l c = false → za = none ∧ zn = 0 ∧ zc = 0) ∧
      ∀ w', Ext w w' → Calls Tryd.prog 87 #[.slice A n cap, .int .i64 c] w' fun e w'' => e = .returned (.slice za zn zc) ∧ Ext w' w'' := by
  cases hh : mpHas l c
  · have hn := mpHas_none hh
    have he : mpFind l c = [] := mpFind_none fun s hm => by
      obtain ⟨j, hj, rfl⟩ := List.getElem_of_mem hm
      exact hn j hj
    refine ⟨none, 0, 0, by rw [he]; exact IntS.nil_ w, fun _ => ⟨rfl, rfl, rfl⟩, fun w' hb => ?_⟩
    exact find_val l A n cap c w' none 0 0 (hs.ext hb) hsort hlen (fun i b o hi _ h => absurd h (hn i hi)) fun _ => ⟨rfl, rfl, rfl⟩
  · simp only [mpHas, List.any_eq_true, decide_eq_true_eq] at hh
    obtain ⟨m, hm, hmc⟩ := hh
    obtain ⟨i, hi, rfl⟩ := List.getElem_of_mem hm
    obtain ⟨b, o, za, zn, zc, ha, h0, h1, h2⟩ := hs.at_ hi
    have hb : ∀ j (hj : j < i), l[j].lo < c := fun j hj => by have := hsort j i hj hi; omega
    refine ⟨za, zn, zc, by rw [mpFind_at i hi hmc hb]; exact h2, (fun h => by cases h), fun w' hbw => ?_⟩
    refine find_val l A n cap c w' za zn zc (hs.ext hbw) hsort hlen (fun j b' o' hj ha' hjc => ?_) fun hno => absurd hmc (hno i hi)
    obtain rfl : j = i := by
      rcases Nat.lt_trichotomy j i with h | h | h
      · have := hb j h; omega
      · exact h
      · have := hsort i j h hj; omega
    rw [ha] at ha'
    injection ha' with ha'
    injection ha' with e1 e2
    subst e1 e2
    exact keep_cell (ext_keep hbw) h1

theorem find_spec (l : List Mp) (A : Option Addr) (n cap : Nat) (c : Int) (w : World) (hs : MapS w ⟨A, n, cap⟩ l) (hsort : MpSorted l) (hne : NonE l) (hlen : l.length ≤ 256) :
    Calls Tryd.prog 87 #[.slice A n cap, .int .i64 c] w fun e w' => ∃ za zn zc, e = .returned (.slice za zn zc) ∧ IntS w' ⟨za, zn, zc⟩ (mpFind l c) ∧ (mpFind l c = [] → za = none ∧ zc = 0) ∧ Ext w w' := by
  obtain ⟨za, zn, zc, h1, h2, h3⟩ := find_det l A n cap c w hs hsort hlen
  refine (h3 w (Ext.refl w)).mono fun e w' ⟨he, hb⟩ => ⟨za, zn, zc, he, h1.ext hb, fun h => ?_, hb⟩
  have := h2 (mpHas_of_nil hne h)
  exact ⟨this.1, this.2.2⟩

/-- What the look-up hands back: nil, or a slice that is not. -/
theorem find_cases {w : World} {za : Option Addr} {zn zc : Nat} {l : List Int} (h : IntS w ⟨za, zn, zc⟩ l) (hn : l = [] → za = none ∧ zc = 0) :
    (l = [] ∧ za = none ∧ zn = 0 ∧ zc = 0) ∨ ∃ b o, l ≠ [] ∧ za = some ⟨b, o, none⟩ := by
  cases l with
  | nil =>
    obtain ⟨h1, h2⟩ := hn rfl
    exact .inl ⟨rfl, h1, h.len.1, h2⟩
  | cons x r =>
    obtain ⟨b, o, ha, _⟩ := h.at_ (i := 0) (by simp)
    exact .inr ⟨b, o, by simp, ha⟩

/-! The look-up of an excluded code point. -/
theorem searchInts1_spec (l : List Int) (A : Option Addr) (n cap : Nat) (i : Nat) (c : Int) (pl pc : Addr) (w : World) (hi : i < l.length)
    (hpl : w.cell? pl = some (.slice A n cap)) (hpc : w.cell? pc = some (.int .i64 c)) (hs : IntS w ⟨A, n, cap⟩ l) :
    Calls Tryd.prog 99 (#[.int .i64 i] ++ #[.pointer (some pl), .pointer (some pc)]) w fun e w' => e = .returned (.bool (decide (c ≤ l[i]))) ∧ Ext w w' := by
  obtain ⟨hn, hnc, hcm⟩ := hs.len
  subst hn
  obtain ⟨b, o, ha, h0⟩ := hs.at_ hi
  subst ha
  have hi0 : (0 : Int) ≤ (i : Int) := Int.natCast_nonneg _
  have hi1 : (i : Int) < (l.length : Int) := by omega
  generalize l[i] = z at *
  go_enter Tryd.func99, Tryd.ntmps99
  go_wp2
  go_quiet (fail)
  go_wp2
  go_ret
  exact ⟨rfl, (Ext.refl _).drewN_ _⟩

theorem searchInts_spec (l : List Int) (A : Option Addr) (n cap : Nat) (c : Int) (w : World) (hs : IntS w ⟨A, n, cap⟩ l) (hlen : l.length ≤ 256) :
    Calls Tryd.prog 98 #[.slice A n cap, .int .i64 c] w fun e w' => ∃ i : Nat, e = .returned (.int .i64 i) ∧ i ≤ l.length ∧ (∀ h : i < l.length, c ≤ l[i]) ∧ (∀ _ : 0 < i, ∀ _ : i - 1 < l.length, l[i - 1] < c) ∧ Ext w w' := by
  obtain ⟨hn, hnc, hcm⟩ := hs.len
  subst hn
  go_enter Tryd.func98, Tryd.ntmps98
  go_wp2_with fail
  refine (search_spec 99 _ l.length (fun i => decide (c ≤ l.getD i 0)) _ (by omega) Tryd.call99 ?_).mono ?_
  · intro i hi w' hb
    have hb0 : Ext w w' := (((Ext.refl w).alloc_ _).alloc_ _).trans' hb
    rw [getD_lt l i _ hi]
    exact searchInts1_spec l A l.length cap i c _ _ w' hi (keep_cell (ext_keep hb) (box2a _ _ _ _)) (keep_cell (ext_keep hb) (box2b _ _ _ _)) (hs.ext hb0)
  · rintro e w1 ⟨i, rfl, hi, h1, h0, hb⟩
    have hb0 : Ext w w1 := (((Ext.refl w).alloc_ _).alloc_ _).trans' hb
    have H1 : Hid (∀ h : i < l.length, c ≤ l[i]) := fun h => by have h' := h1 h; simp only [getD_lt l i _ h] at h'; simpa using h'
    have H0 : Hid (∀ _ : 0 < i, ∀ _ : i - 1 < l.length, l[i - 1] < c) := fun h hh => by have h' := h0 h; simp only [getD_lt l (i - 1) _ hh] at h'; simpa using h'
    clear h1 h0
    go_wp2
    go_ret
    exact ⟨i, rfl, hi, H1.out, H0.out, hb0⟩

set_option maxHeartbeats 400000 in
theorem excluded_look (t : TV) (T : Tbl) (c : Int) (w : World) (ht : TblS w t T) (hsort : InSorted T.exc) (hlen : T.exc.length ≤ 256) :
    Calls Tryd.prog 94 #[t.v, .int .i64 c] w fun e w' => e = .returned (.bool (exHas T.exc c)) ∧ Ext w w' := by
  obtain ⟨s0, s1, s2, s3, s4, s5, s6, s7, s8, s9, ⟨A, n, cc⟩, s11⟩ := t
  have hx : IntS w ⟨A, n, cc⟩ T.exc := ht.exc
  clear ht
  generalize T.exc = l at *
  obtain ⟨hn, hnc, hcm⟩ := hx.len
  subst hn
  simp only [TV.v]
  go_enter Tryd.func94, Tryd.ntmps94
  go_wp2_with fail
  refine (searchInts_spec l _ _ _ c _ (hx.ext ((Ext.refl w).alloc_ _)) hlen).mono ?_
  rintro e w1 ⟨i, rfl, hi, h1, h0, hb⟩
  have hb0 : Ext w w1 := ((Ext.refl w).alloc_ _).trans' hb
  have HF := Lib.hid (exHas_search hsort hi h1 fun h => h0 h (by omega))
  clear h1 h0
  obtain ⟨hc, hf⟩ := bcell hb.b
  by_cases hlt : i < l.length
  · obtain ⟨b, o, ha, hx⟩ := (hx.ext hb0).at_ hlt
    subst ha
    have hi0 : (0 : Int) ≤ (i : Int) := Int.natCast_nonneg _
    have hi1 : (i : Int) < (l.length : Int) := by omega
    have HV : Hid (exHas l c = decide (l[i] = c)) := by have h := HF.out; rw [dif_pos hlt] at h; exact h
    clear HF
    generalize l[i] = z at *
    go_wp2
    go_ret
    exact ⟨ret_bool (by rw [HV.out, Bool.eq_iff_iff]; simp), hb0⟩
  · obtain rfl : i = l.length := by omega
    have HV : Hid (exHas l c = false) := by have h := HF.out; rw [dif_neg hlt] at h; exact h
    clear HF
    go_wp2
    go_ret
    exact ⟨ret_bool (by rw [HV.out]), hb0⟩
end Go.Proofs.YtgfdecfcbnnemaaDoor
