/- Walks of the reference: its small functions, find, the lists of the tables. -/
import Derived.Test.YtbdabjhankgcmaaGreatDoorWd
import Derived.Test.YtbdabjhankgcmaaGreatDoorGa
namespace Go.Proofs.YtbdabjhankgcmaaGreatDoor
open Go.RowKit
theorem rscalar_spec (c : Int) (w : World) : Calls Tryz.prog 53 #[.int .i64 c] w fun e w' => e = .returned (.bool (scalarB c)) ∧ w = w' := by
 go_enter Tryz.func53, Tryz.ntmps53
 go_wp2
 all_goals (go_ret; refine ⟨ret_bool ?_, rfl⟩; (first | (simp [scalarB, *]; done) | (rw [Bool.eq_iff_iff]; simp [scalarB]; omega) | (simp [scalarB, *]; omega)))
theorem rsyll_spec (c : Int) (w : World) : Calls Tryz.prog 87 #[.int .i64 c] w fun e w' => e = .returned (.bool (syllB c)) ∧ w = w' := by
 go_enter Tryz.func87, Tryz.ntmps87
 go_wp2
 all_goals (go_ret; refine ⟨ret_bool ?_, rfl⟩; (first | (simp [syllB, *]; done) | (rw [Bool.eq_iff_iff]; simp [syllB]; omega) | (simp [syllB, *]; omega)))
theorem rjamo_spec (c : Int) (w : World) : Calls Tryz.prog 88 #[.int .i64 c] w fun e w' => e = .returned (.bool (jamoB c)) ∧ w = w' := by
 go_enter Tryz.func88, Tryz.ntmps88
 go_wp2
 all_goals (go_ret; refine ⟨ret_bool ?_, rfl⟩; (first | (simp [jamoB, *]; done) | (rw [Bool.eq_iff_iff]; simp [jamoB]; omega) | (simp [jamoB, *]; omega)))
theorem rlatin_spec (c : Int) (w : World) : Calls Tryz.prog 132 #[.int .i64 c] w fun e w' => e = .returned (.bool (nameB c)) ∧ w = w' := by
 go_enter Tryz.func132, Tryz.ntmps132
 go_wp2
 all_goals (go_ret; refine ⟨ret_bool ?_, rfl⟩; (first | (simp [nameB, *]; done) | (rw [Bool.eq_iff_iff]; simp [nameB]; omega) | (simp [nameB, *]; omega)))
theorem rreserved_spec (c : Int) (w : World) : Calls Tryz.prog 140 #[.int .i64 c] w fun e w' => e = .returned (.bool (resB c)) ∧ w = w' := by
 have H : Hid (resB c = (decide (0 ≤ c) && decide (c ≤ 127) || (decide (55296 ≤ c) && decide (c ≤ 57343)) || syllB c || jamoB c)) := rfl
 go_enter Tryz.func140, Tryz.ntmps140
 go_wp2_with (first
  | (go_at_call 87; refine (rsyll_spec _ _).mono ?_; rintro e w' ⟨rfl, rfl⟩; cases h2 : syllB c)
  | (go_at_call 88; refine (rjamo_spec _ _).mono ?_; rintro e w' ⟨rfl, rfl⟩; cases h3 : jamoB c))
 all_goals (go_ret; refine ⟨ret_bool ?_, rfl⟩; rw [H.out]; (first | (simp [*]; done) | (simp [*]; omega)))
theorem mpFind_first (c : Int) : ∀ l : List Mp, (mpFind l c = [] ∧ ∀ i (hi : i < l.length), l[i].lo ≠ c) ∨ ∃ i, ∃ hi : i < l.length, l[i].lo = c ∧ mpFind l c = l[i].to ∧ ∀ j (hj : j < i), l[j].lo ≠ c
 | [] => .inl ⟨rfl, fun i hi => by simp at hi⟩
 | m :: r => by
  by_cases h : m.lo = c
  ·exact .inr ⟨0, by simp, h, by rw [mpFind, if_pos h]; rfl, fun j hj => by omega⟩
  ·rcases mpFind_first c r with ⟨h1, h2⟩ | ⟨i, hi, h1, h2, h3⟩
   ·refine .inl ⟨by rw [mpFind, if_neg h, h1], fun i hi => ?_⟩
    cases i with
    | zero => exact h
    | succ i => simpa using h2 i (by simpa using hi)
   ·refine .inr ⟨i + 1, by simpa using hi, by simpa using h1, by rw [mpFind, if_neg h, h2]; rfl, fun j hj => ?_⟩
    cases j with
    | zero => exact h
    | succ j => simpa using h3 j (by omega)
set_option maxHeartbeats 800000 in
set_option maxRecDepth 100000 in
theorem rfind_det (l : List Mp) (A : Option Addr) (n cap : Nat) (c : Int) (w0 : World) (hs0 : MapS w0 ⟨A, n, cap⟩ l) :
  ∃ za zn zc, IntS w0 ⟨za, zn, zc⟩ (mpFind l c) ∧ ∀ w, Ext w0 w → Calls Tryz.prog 97 #[.slice A n cap, .int .i64 c] w fun e w' => e = .returned (.slice za zn zc) ∧ Ext w w' := by
 obtain ⟨hn, _, _⟩ := hs0.len
 subst hn
 rcases mpFind_first c l with ⟨hnil, hno⟩ | ⟨i, hi, hic, hto, hbe⟩
 ·refine ⟨none, 0, 0, by rw [hnil]; exact IntS.nil_ _, fun w hw => ?_⟩
  have HNO := Lib.hid hno
  clear hno hnil
  go_enter Tryz.func97, Tryz.ntmps97
  go_wp2_with fail
  go_loopw [9] (fun i wr => ∃ (k : Nat), k ≤ l.length ∧ i = .int .i64 k ∧ Ext w wr) (fun i _ => l.length - (intOf i).toNat)
  case atStart => exact ⟨0, Nat.zero_le _, rfl, Ext.refl _⟩
  case round =>
   obtain ⟨k, hk, rfl, hbr⟩ := hrel
   by_cases hlt : k < l.length
   ·obtain ⟨b, o, za, zn, zc, ha, h0, h1, h2⟩ := (hs0.ext (hw.trans' hbr)).at_ hlt
    subst ha
    have hne := HNO.out k hlt
    generalize l[k] = x at *
    obtain ⟨xl, xt⟩ := x
    simp only at h0 h1 h2 hne
    have e1 : (xl == c) = false := by rw [beq_eq_false_iff_ne]; exact hne
    clear h2 hne
    go_wp2_with fail
    go_roundw
    case rel => exact ⟨k + 1, by omega, by go_num, hbr.alloc_ _⟩
    case measure => simp [intOf]; omega
   ·go_wp2_with fail
    go_ret
    exact ⟨rfl, hbr⟩
 ·obtain ⟨b, o, za, zn, zc, ha, g0, g1, g2⟩ := hs0.at_ hi
  subst ha
  refine ⟨za, zn, zc, by rw [hto]; exact g2, fun w hw => ?_⟩
  have HBE := Lib.hid hbe
  have HIC := Lib.hid hic
  have G1 := Lib.hid g1
  clear hbe hto g0 g1 g2 hic
  go_enter Tryz.func97, Tryz.ntmps97
  go_wp2_with fail
  go_loopw [9] (fun ii wr => ∃ (k : Nat), k ≤ i ∧ ii = .int .i64 k ∧ Ext w wr) (fun ii _ => l.length - (intOf ii).toNat)
  case atStart => exact ⟨0, Nat.zero_le _, rfl, Ext.refl _⟩
  case round =>
   obtain ⟨k, hk, rfl, hbr⟩ := hrel
   have hlt : k < l.length := by omega
   obtain ⟨b', o', ya, yn, yc, ha, h0, h1, h2⟩ := (hs0.ext (hw.trans' hbr)).at_ hlt
   injection ha with ha
   injection ha with e1 e2
   subst e1 e2
   clear h2
   rcases Nat.lt_or_ge k i with hki | hki
   ·have hne := HBE.out k hki
    generalize l[k] = x at *
    obtain ⟨xl, xt⟩ := x
    simp only at h0 h1 hne
    have e1 : (xl == c) = false := by rw [beq_eq_false_iff_ne]; exact hne
    clear hne
    go_wp2_with fail
    go_roundw
    case rel => exact ⟨k + 1, by omega, by go_num, hbr.alloc_ _⟩
    case measure => simp [intOf]; omega
   ·have hki : k = i := by omega
    subst hki
    have hx : (Value.slice ya yn yc) = .slice za zn zc := Option.some.inj (h1.symm.trans (keep_cell (ext_keep (hw.trans' hbr)) G1.out))
    have hxl : l[k].lo = c := HIC.out
    rw [hxl] at h0
    rw [hx] at h1
    generalize l[k] = x at *
    clear hx hxl
    go_wp2_with fail
    go_ret
    exact ⟨rfl, hbr.alloc_ _⟩
theorem rfind_spec (l : List Mp) (A : Option Addr) (n cap : Nat) (c : Int) (w : World) (hs : MapS w ⟨A, n, cap⟩ l) :
  Calls Tryz.prog 97 #[.slice A n cap, .int .i64 c] w fun e w' => ∃ za zn zc, e = .returned (.slice za zn zc) ∧ IntS w' ⟨za, zn, zc⟩ (mpFind l c) ∧ Ext w w' := by
 obtain ⟨za, zn, zc, h1, h2⟩ := rfind_det l A n cap c w hs
 exact (h2 w (Ext.refl _)).mono fun e w' ⟨h3, h4⟩ => ⟨za, zn, zc, h3, h1.ext h4, h4⟩
set_option maxHeartbeats 800000 in
set_option maxRecDepth 100000 in
theorem rexcluded_spec (t : TV) (T : Tbl) (c : Int) (w : World) (ht : TblS w t T) :
  Calls Tryz.prog 141 #[t.v, .int .i64 c] w fun e w' => e = .returned (.bool (exHas T.exc c)) ∧ Ext w w' := by
 obtain ⟨s0, s1, s2, s3, s4, s5, s6, s7, s8, s9, ⟨A, n, cc⟩, s11⟩ := t
 have hx : IntS w ⟨A, n, cc⟩ T.exc := ht.exc
 clear ht
 generalize T.exc = l at *
 obtain ⟨hl, _, _⟩ := hx.len
 subst hl
 have hba : Ext w (w.alloc (.cells #[.slice s0.a s0.n s0.c, .slice s1.a s1.n s1.c, .slice s2.a s2.n s2.c, .slice s3.a s3.n s3.c, .slice s4.a s4.n s4.c, .slice s5.a s5.n s5.c, .slice s6.a s6.n s6.c, .slice s7.a s7.n s7.c, .slice s8.a s8.n s8.c, .slice s9.a s9.n s9.c, .slice A l.length cc, .slice s11.a s11.n s11.c] 26)) := (Ext.refl _).alloc_ _
 go_enter Tryz.func141, Tryz.ntmps141
 go_wp2_with fail
 go_loopw [10] (fun i wr => ∃ (k : Nat), k ≤ l.length ∧ i = .int .i64 k ∧ Hid (exHas l c = exHas (l.drop k) c) ∧
  Ext (w.alloc (.cells #[.slice s0.a s0.n s0.c, .slice s1.a s1.n s1.c, .slice s2.a s2.n s2.c, .slice s3.a s3.n s3.c, .slice s4.a s4.n s4.c, .slice s5.a s5.n s5.c, .slice s6.a s6.n s6.c, .slice s7.a s7.n s7.c, .slice s8.a s8.n s8.c, .slice s9.a s9.n s9.c, .slice A l.length cc, .slice s11.a s11.n s11.c] 26)) wr) (fun i _ => l.length - (intOf i).toNat)
 case atStart => exact ⟨0, Nat.zero_le _, rfl, rfl, Ext.refl _⟩
 case round =>
  obtain ⟨k, hk, rfl, HR, hbr⟩ := hrel
  have hb0r := hba.trans' hbr
  by_cases hlt : k < l.length
  ·obtain ⟨b, o, ha, h0⟩ := (hx.ext hb0r).at_ hlt
   subst ha
   have HD : Hid (l.drop k = l[k] :: l.drop (k + 1)) := drop_at l k hlt
   generalize l[k] = x at *
   have HS := hid_trans HR (show _ = (decide (x = c) || exHas (l.drop (k + 1)) c) from by rw [HD.out]; rfl)
   clear HR HD
   by_cases hc : x = c
   ·have e1 : (x == c) = true := by rw [beq_iff_eq]; exact hc
    have HF : Hid (exHas l c = true) := Lib.hid (by rw [HS.out, decide_eq_true hc]; rfl)
    clear HS hc
    go_wp2_with fail
    go_ret
    exact ⟨ret_bool HF.out.symm, hb0r⟩
   ·have e1 : (x == c) = false := by rw [beq_eq_false_iff_ne]; exact hc
    have HF : Hid (exHas l c = exHas (l.drop (k + 1)) c) := Lib.hid (by rw [HS.out, decide_eq_false hc]; rfl)
    clear HS hc
    go_wp2_with fail
    go_roundw
    case rel => exact ⟨k + 1, by omega, by go_num, HF, hbr⟩
    case measure => simp [intOf]; omega
  ·have HF : Hid (exHas l c = false) := Lib.hid (by rw [HR.out, drop_all l k (by omega)]; rfl)
   go_wp2_with fail
   go_ret
   exact ⟨ret_bool HF.out.symm, hb0r⟩
def SpansS (w : World) (s : SV) (l : List (List Sp)) : Prop :=
 SlOk s l.length ∧ ∀ i x, l[i]? = some x → ∃ b o za zn zc, s.a = some ⟨b, o, none⟩ ∧ w.cell? ⟨b, o + i, none⟩ = some (.slice za zn zc) ∧ SpanS w ⟨za, zn, zc⟩ x
theorem SpansS.ext {w w' : World} {s : SV} {l : List (List Sp)} (h : SpansS w s l) (hb : Ext w w') : SpansS w' s l :=
 ⟨h.1, fun i x hx => by obtain ⟨b, o, za, zn, zc, ha, h0, h1⟩ := h.2 i x hx; exact ⟨b, o, za, zn, zc, ha, keep_cell (ext_keep hb) h0, h1.ext hb⟩⟩
theorem SpansS.at_ {A : Option Addr} {n c : Nat} {w : World} {l : List (List Sp)} (h : SpansS w ⟨A, n, c⟩ l) {i : Nat} (hi : i < l.length) :
  ∃ b o za zn zc, A = some ⟨b, o, none⟩ ∧ w.cell? ⟨b, o + i, none⟩ = some (.slice za zn zc) ∧ SpanS w ⟨za, zn, zc⟩ l[i] :=
 h.2 i _ (List.getElem?_eq_getElem hi)
def spansL (T : Tbl) : List (List Sp) := [T.cat, T.cls, T.joi, T.bid, T.scr, T.sta, T.ign]
def mostL : List Int := [8, 254, 5, 11, 60, 4, 1]
theorem spansS_block {w : World} {g : Nat} {t : TypeId} {T : Tbl} {s0 s1 s2 s3 s4 s5 s6 : SV}
  (h : w.heap[g]? = some (.cells #[s0.v, s1.v, s2.v, s3.v, s4.v, s5.v, s6.v] t (0, 0)))
  (h0 : SpanS w s0 T.cat) (h1 : SpanS w s1 T.cls) (h2 : SpanS w s2 T.joi) (h3 : SpanS w s3 T.bid) (h4 : SpanS w s4 T.scr) (h5 : SpanS w s5 T.sta) (h6 : SpanS w s6 T.ign) :
  SpansS w ⟨some ⟨g, 0, none⟩, 7, 7⟩ (spansL T) := by
 have hc := fun i => cell_of_row w g i _ t (0, 0) h
 refine ⟨⟨rfl, by simp [spansL], by simp [maxLen]⟩, fun i x hx => ?_⟩
 have hi : i < 7 := by
  have := (List.getElem?_eq_some_iff.1 hx).1
  simpa [spansL] using this
 match i, hi with
 | 0, _ => simp only [spansL, List.getElem?_cons_zero, Option.some.injEq] at hx; subst hx; exact ⟨g, 0, s0.a, s0.n, s0.c, rfl, (hc 0).trans rfl, h0⟩
 | 1, _ => simp only [spansL, List.getElem?_cons_zero, List.getElem?_cons_succ, Option.some.injEq] at hx; subst hx; exact ⟨g, 0, s1.a, s1.n, s1.c, rfl, (hc 1).trans rfl, h1⟩
 | 2, _ => simp only [spansL, List.getElem?_cons_zero, List.getElem?_cons_succ, Option.some.injEq] at hx; subst hx; exact ⟨g, 0, s2.a, s2.n, s2.c, rfl, (hc 2).trans rfl, h2⟩
 | 3, _ => simp only [spansL, List.getElem?_cons_zero, List.getElem?_cons_succ, Option.some.injEq] at hx; subst hx; exact ⟨g, 0, s3.a, s3.n, s3.c, rfl, (hc 3).trans rfl, h3⟩
 | 4, _ => simp only [spansL, List.getElem?_cons_zero, List.getElem?_cons_succ, Option.some.injEq] at hx; subst hx; exact ⟨g, 0, s4.a, s4.n, s4.c, rfl, (hc 4).trans rfl, h4⟩
 | 5, _ => simp only [spansL, List.getElem?_cons_zero, List.getElem?_cons_succ, Option.some.injEq] at hx; subst hx; exact ⟨g, 0, s5.a, s5.n, s5.c, rfl, (hc 5).trans rfl, h5⟩
 | 6, _ => simp only [spansL, List.getElem?_cons_zero, List.getElem?_cons_succ, Option.some.injEq] at hx; subst hx; exact ⟨g, 0, s6.a, s6.n, s6.c, rfl, (hc 6).trans rfl, h6⟩
theorem mostS_block {w : World} {g : Nat} {t : TypeId} (h : w.heap[g]? = some (.cells #[.int .i64 8, .int .i64 254, .int .i64 5, .int .i64 11, .int .i64 60, .int .i64 4, .int .i64 1] t (0, 0))) : IntS w ⟨some ⟨g, 0, none⟩, 7, 7⟩ mostL := by
 have hc := fun i => cell_of_row w g i _ t (0, 0) h
 refine ⟨⟨rfl, by simp [mostL], by simp [maxLen]⟩, fun i x hx => ?_⟩
 have hi : i < 7 := by
  have := (List.getElem?_eq_some_iff.1 hx).1
  simpa [mostL] using this
 match i, hi with
 | 0, _ | 1, _ | 2, _ | 3, _ | 4, _ | 5, _ | 6, _ =>
  simp only [mostL, List.getElem?_cons_zero, List.getElem?_cons_succ, Option.some.injEq] at hx
  subst hx
  refine ⟨g, 0, rfl, (hc _).trans rfl⟩
set_option maxHeartbeats 800000 in
set_option maxRecDepth 100000 in
theorem rspans_spec (t : TV) (T : Tbl) (w : World) (ht : TblS w t T) :
  Calls Tryz.prog 136 #[t.v] w fun e w' => ∃ b1 b2, e = .returned (.tuple #[.slice (some ⟨b1, 0, none⟩) 7 7, .slice (some ⟨b2, 0, none⟩) 7 7]) ∧ SpansS w' ⟨some ⟨b1, 0, none⟩, 7, 7⟩ (spansL T) ∧ IntS w' ⟨some ⟨b2, 0, none⟩, 7, 7⟩ mostL ∧ Ext w w' := by
 go_enter Tryz.func136, Tryz.ntmps136
 go_wp2
 go_ret2
 have hb : Ext w ((((w.alloc (.cells #[.slice t.s0.a t.s0.n t.s0.c, .slice t.s1.a t.s1.n t.s1.c, .slice t.s2.a t.s2.n t.s2.c, .slice t.s3.a t.s3.n t.s3.c, .slice t.s4.a t.s4.n t.s4.c, .slice t.s5.a t.s5.n t.s5.c, .slice t.s6.a t.s6.n t.s6.c, .slice t.s7.a t.s7.n t.s7.c, .slice t.s8.a t.s8.n t.s8.c, .slice t.s9.a t.s9.n t.s9.c, .slice t.s10.a t.s10.n t.s10.c, .slice t.s11.a t.s11.n t.s11.c] 26))).alloc (.cells #[t.s0.v, t.s1.v, t.s2.v, t.s3.v, t.s4.v, t.s5.v, t.s6.v] 23)).alloc (.cells #[.int .i64 8, .int .i64 254, .int .i64 5, .int .i64 11, .int .i64 60, .int .i64 4, .int .i64 1] 3)) := (((Ext.refl _).alloc_ _).alloc_ _).alloc_ _
 refine ⟨w.heap.size + 1, w.heap.size + 2, rfl, spansS_block (t := 23) ?_ (ht.cat.ext hb) (ht.cls.ext hb) (ht.joi.ext hb) (ht.bid.ext hb) (ht.scr.ext hb) (ht.sta.ext hb) (ht.ign.ext hb), mostS_block (t := 3) ?_, hb⟩
 ·have h := heap_alloc2_old (((w.alloc (.cells #[.slice t.s0.a t.s0.n t.s0.c, .slice t.s1.a t.s1.n t.s1.c, .slice t.s2.a t.s2.n t.s2.c, .slice t.s3.a t.s3.n t.s3.c, .slice t.s4.a t.s4.n t.s4.c, .slice t.s5.a t.s5.n t.s5.c, .slice t.s6.a t.s6.n t.s6.c, .slice t.s7.a t.s7.n t.s7.c, .slice t.s8.a t.s8.n t.s8.c, .slice t.s9.a t.s9.n t.s9.c, .slice t.s10.a t.s10.n t.s10.c, .slice t.s11.a t.s11.n t.s11.c] 26)))) (.cells #[t.s0.v, t.s1.v, t.s2.v, t.s3.v, t.s4.v, t.s5.v, t.s6.v] 23) (.cells #[.int .i64 8, .int .i64 254, .int .i64 5, .int .i64 11, .int .i64 60, .int .i64 4, .int .i64 1] 3)
  simpa using h
 ·have h := alloc2_new ((w.alloc (.cells #[.slice t.s0.a t.s0.n t.s0.c, .slice t.s1.a t.s1.n t.s1.c, .slice t.s2.a t.s2.n t.s2.c, .slice t.s3.a t.s3.n t.s3.c, .slice t.s4.a t.s4.n t.s4.c, .slice t.s5.a t.s5.n t.s5.c, .slice t.s6.a t.s6.n t.s6.c, .slice t.s7.a t.s7.n t.s7.c, .slice t.s8.a t.s8.n t.s8.c, .slice t.s9.a t.s9.n t.s9.c, .slice t.s10.a t.s10.n t.s10.c, .slice t.s11.a t.s11.n t.s11.c] 26))) (.cells #[t.s0.v, t.s1.v, t.s2.v, t.s3.v, t.s4.v, t.s5.v, t.s6.v] 23) (.cells #[.int .i64 8, .int .i64 254, .int .i64 5, .int .i64 11, .int .i64 60, .int .i64 4, .int .i64 1] 3)
  simpa using h
theorem rmappings_spec (t : TV) (T : Tbl) (w : World) (ht : TblS w t T) :
  Calls Tryz.prog 137 #[t.v] w fun e w' => ∃ b, e = .returned (.slice (some ⟨b, 0, none⟩) 4 4) ∧ MapsS w' ⟨some ⟨b, 0, none⟩, 4, 4⟩ (maps T) ∧ Ext w w' := by
 go_enter Tryz.func137, Tryz.ntmps137
 go_wp2
 go_ret
 have hb : Ext w (((w.alloc (.cells #[.slice t.s0.a t.s0.n t.s0.c, .slice t.s1.a t.s1.n t.s1.c, .slice t.s2.a t.s2.n t.s2.c, .slice t.s3.a t.s3.n t.s3.c, .slice t.s4.a t.s4.n t.s4.c, .slice t.s5.a t.s5.n t.s5.c, .slice t.s6.a t.s6.n t.s6.c, .slice t.s7.a t.s7.n t.s7.c, .slice t.s8.a t.s8.n t.s8.c, .slice t.s9.a t.s9.n t.s9.c, .slice t.s10.a t.s10.n t.s10.c, .slice t.s11.a t.s11.n t.s11.c] 26))).alloc (.cells #[t.s7.v, t.s8.v, t.s9.v, t.s11.v] 24)) := ((Ext.refl _).alloc_ _).alloc_ _
 exact ⟨w.heap.size + 1, rfl, mapsS_block (alloc2_new _ _ _) (MapS.ext ht.ext hb) (ht.mps.ext hb) (ht.dec.ext hb) (ht.pro.ext hb), hb⟩
def blocks2 : List Sp := [⟨0, 127, 0⟩, ⟨55296, 57343, 0⟩, ⟨44032, 55203, 0⟩, ⟨4352, 4370, 0⟩, ⟨4449, 4469, 0⟩, ⟨4520, 4546, 0⟩]
theorem clean_eq (lo hi : Int) : outGo lo hi blocks2 = outGo lo hi blocksL := by
 simp only [outGo, blocks2, blocksL]
 generalize touches lo hi ⟨0, 127, 0⟩ = a
 generalize touches lo hi ⟨55296, 57343, 0⟩ = b
 generalize touches lo hi ⟨44032, 55203, 0⟩ = c
 generalize touches lo hi ⟨4352, 4370, 0⟩ = d
 generalize touches lo hi ⟨4449, 4469, 0⟩ = e
 generalize touches lo hi ⟨4520, 4546, 0⟩ = f
 cases a <;> cases b <;> cases c <;> cases d <;> cases e <;> cases f <;> rfl
set_option maxHeartbeats 1600000 in
set_option maxRecDepth 100000 in
theorem rclean_spec (lo hi val : Int) (w : World) :
  Calls Tryz.prog 139 #[.agg #[.int .i64 lo, .int .i64 hi, .int .i64 val]] w fun e w' => e = .returned (.bool (outsideB ⟨lo, hi, val⟩)) ∧ Ext w w' := by
 have HB : Hid (outsideB ⟨lo, hi, val⟩ = outGo lo hi (blocks2.drop 0)) := Lib.hid (by rw [outsideB, ← clean_eq]; rfl)
 have i0 : ∀ w : World, (Instr.index 142 (.agg #[.int .i64 0, .int .i64 127, .int .i64 55296, .int .i64 57343, .int .i64 44032, .int .i64 55203, .int .i64 4352, .int .i64 4370, .int .i64 4449, .int .i64 4469, .int .i64 4520, .int .i64 4546]) (.int .i64 0)).run Tryz.prog w = .ok (.agg #[.int .i64 0, .int .i64 127]) w := fun _ => by kernel_rfl
 have i1 : ∀ w : World, (Instr.index 142 (.agg #[.int .i64 0, .int .i64 127, .int .i64 55296, .int .i64 57343, .int .i64 44032, .int .i64 55203, .int .i64 4352, .int .i64 4370, .int .i64 4449, .int .i64 4469, .int .i64 4520, .int .i64 4546]) (.int .i64 1)).run Tryz.prog w = .ok (.agg #[.int .i64 55296, .int .i64 57343]) w := fun _ => by kernel_rfl
 have i2 : ∀ w : World, (Instr.index 142 (.agg #[.int .i64 0, .int .i64 127, .int .i64 55296, .int .i64 57343, .int .i64 44032, .int .i64 55203, .int .i64 4352, .int .i64 4370, .int .i64 4449, .int .i64 4469, .int .i64 4520, .int .i64 4546]) (.int .i64 2)).run Tryz.prog w = .ok (.agg #[.int .i64 44032, .int .i64 55203]) w := fun _ => by kernel_rfl
 have i3 : ∀ w : World, (Instr.index 142 (.agg #[.int .i64 0, .int .i64 127, .int .i64 55296, .int .i64 57343, .int .i64 44032, .int .i64 55203, .int .i64 4352, .int .i64 4370, .int .i64 4449, .int .i64 4469, .int .i64 4520, .int .i64 4546]) (.int .i64 3)).run Tryz.prog w = .ok (.agg #[.int .i64 4352, .int .i64 4370]) w := fun _ => by kernel_rfl
 have i4 : ∀ w : World, (Instr.index 142 (.agg #[.int .i64 0, .int .i64 127, .int .i64 55296, .int .i64 57343, .int .i64 44032, .int .i64 55203, .int .i64 4352, .int .i64 4370, .int .i64 4449, .int .i64 4469, .int .i64 4520, .int .i64 4546]) (.int .i64 4)).run Tryz.prog w = .ok (.agg #[.int .i64 4449, .int .i64 4469]) w := fun _ => by kernel_rfl
 have i5 : ∀ w : World, (Instr.index 142 (.agg #[.int .i64 0, .int .i64 127, .int .i64 55296, .int .i64 57343, .int .i64 44032, .int .i64 55203, .int .i64 4352, .int .i64 4370, .int .i64 4449, .int .i64 4469, .int .i64 4520, .int .i64 4546]) (.int .i64 5)).run Tryz.prog w = .ok (.agg #[.int .i64 4520, .int .i64 4546]) w := fun _ => by kernel_rfl
 go_enter Tryz.func139, Tryz.ntmps139
 go_wp2
 go_loopw [12] (fun i wr => ∃ (k : Nat), k ≤ 6 ∧ i = .int .i64 k ∧ Hid (outsideB ⟨lo, hi, val⟩ = outGo lo hi (blocks2.drop k)) ∧ Ext (w.alloc (.cells #[.int .i64 lo, .int .i64 hi, .int .i64 val] 54)) wr) (fun i _ => 6 - (intOf i).toNat)
 case atStart => exact ⟨0, Nat.zero_le _, rfl, HB, Ext.refl _⟩
 case round =>
  obtain ⟨k, hk, rfl, HR, hb⟩ := hrel
  have hb0 : Ext w wr := ((Ext.refl w).alloc_ _).trans' hb
  have hbx := box_at hb
  have hz : w.heap.size < wr.heap.size := by have := hb.b.size; simp at this; omega
  have hk5 : k = 0 ∨ k = 1 ∨ k = 2 ∨ k = 3 ∨ k = 4 ∨ k = 5 ∨ k = 6 := by omega
  rcases hk5 with rfl | rfl | rfl | rfl | rfl | rfl | rfl
  ·have HO : Hid (blocks2.drop 0 = ⟨0, 127, 0⟩ :: blocks2.drop 1) := rfl
   go_wp2
   all_goals first
    | (go_ret; exact ⟨ret_bool (by rw [HR.out, HO.out]; exact (outGo_no (by simp only; omega)).symm), hb0.alloc_ _⟩)
    | (go_roundw
       case rel => exact ⟨1, by omega, by go_num, hid_trans HR (by rw [HO.out]; exact outGo_yes (by simp only; omega)), hb.alloc_ _⟩
       case measure => simp [intOf])
  ·have HO : Hid (blocks2.drop 1 = ⟨55296, 57343, 0⟩ :: blocks2.drop 2) := rfl
   go_wp2
   all_goals first
    | (go_ret; exact ⟨ret_bool (by rw [HR.out, HO.out]; exact (outGo_no (by simp only; omega)).symm), hb0.alloc_ _⟩)
    | (go_roundw
       case rel => exact ⟨2, by omega, by go_num, hid_trans HR (by rw [HO.out]; exact outGo_yes (by simp only; omega)), hb.alloc_ _⟩
       case measure => simp [intOf])
  ·have HO : Hid (blocks2.drop 2 = ⟨44032, 55203, 0⟩ :: blocks2.drop 3) := rfl
   go_wp2
   all_goals first
    | (go_ret; exact ⟨ret_bool (by rw [HR.out, HO.out]; exact (outGo_no (by simp only; omega)).symm), hb0.alloc_ _⟩)
    | (go_roundw
       case rel => exact ⟨3, by omega, by go_num, hid_trans HR (by rw [HO.out]; exact outGo_yes (by simp only; omega)), hb.alloc_ _⟩
       case measure => simp [intOf])
  ·have HO : Hid (blocks2.drop 3 = ⟨4352, 4370, 0⟩ :: blocks2.drop 4) := rfl
   go_wp2
   all_goals first
    | (go_ret; exact ⟨ret_bool (by rw [HR.out, HO.out]; exact (outGo_no (by simp only; omega)).symm), hb0.alloc_ _⟩)
    | (go_roundw
       case rel => exact ⟨4, by omega, by go_num, hid_trans HR (by rw [HO.out]; exact outGo_yes (by simp only; omega)), hb.alloc_ _⟩
       case measure => simp [intOf])
  ·have HO : Hid (blocks2.drop 4 = ⟨4449, 4469, 0⟩ :: blocks2.drop 5) := rfl
   go_wp2
   all_goals first
    | (go_ret; exact ⟨ret_bool (by rw [HR.out, HO.out]; exact (outGo_no (by simp only; omega)).symm), hb0.alloc_ _⟩)
    | (go_roundw
       case rel => exact ⟨5, by omega, by go_num, hid_trans HR (by rw [HO.out]; exact outGo_yes (by simp only; omega)), hb.alloc_ _⟩
       case measure => simp [intOf])
  ·have HO : Hid (blocks2.drop 5 = ⟨4520, 4546, 0⟩ :: blocks2.drop 6) := rfl
   go_wp2
   all_goals first
    | (go_ret; exact ⟨ret_bool (by rw [HR.out, HO.out]; exact (outGo_no (by simp only; omega)).symm), hb0.alloc_ _⟩)
    | (go_roundw
       case rel => exact ⟨6, by omega, by go_num, hid_trans HR (by rw [HO.out]; exact outGo_yes (by simp only; omega)), hb.alloc_ _⟩
       case measure => simp [intOf])
  ·go_wp2
   go_ret
   exact ⟨ret_bool (by rw [HR.out]; rfl), hb0⟩
end Go.Proofs.YtbdabjhankgcmaaGreatDoor
