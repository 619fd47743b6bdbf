/- Walks: joiner. Walks: joiner.permitted, Permitted, Check. Walks: joiner.Permitted, joiner.Check. -/
import Derived.Test.YtbdabjhankgcmaaDoorGe
import Derived.WalkMore
namespace Go.Proofs.YtbdabjhankgcmaaDoor
open Go.RowKit
def nxUp (T : Tbl) : Nat → List Int → Int
 | _, [] => -1
 | k, x :: r => if joiT T x = 5 then nxUp T (k + 1) r else k
def nxDn (T : Tbl) : List Int → Int
 | [] => -1
 | x :: r => if joiT T x = 5 then nxDn T r else r.length
def nextB (T : Tbl) (l : List Int) (i : Nat) (up : Bool) : Int := if up = true then nxUp T (i + 1) (l.drop (i + 1)) else nxDn T (l.take i).reverse
def existsB (T : Tbl) (l : List Int) (i : Int) : Bool := ordErr T l == 0 && decide (0 ≤ i) && decide (i < (l.length : Int))
def leftV (T : Tbl) (l : List Int) (i : Int) : Int := if existsB T l i = true then nextB T l i.toNat false else -1
def rightV (T : Tbl) (l : List Int) (i : Int) : Int := if existsB T l i = true then nextB T l i.toNat true else -1
def joinsB (T : Tbl) (l : List Int) (i side : Int) : Bool := if i < 0 then false else (joiT T (l.getD i.toNat 0) == side || joiT T (l.getD i.toNat 0) == 3)
def jper (T : Tbl) (l : List Int) (i : Nat) : Bool :=
 if (!(l.getD i 0 == 8204) && !(l.getD i 0 == 8205)) = true then true
 else if (decide (0 < i) && clsT T (l.getD (i - 1) 0) == 9) = true then true
 else l.getD i 0 == 8204 && joinsB T l (nextB T l i false) 1 && joinsB T l (nextB T l i true) 2
def jpermB (T : Tbl) (l : List Int) (i : Int) : Bool := existsB T l i && jper T l i.toNat
def jchk (T : Tbl) (l : List Int) : Nat → Nat → Int × Int
 | 0, _ => (0, 0)
 | n + 1, i => if jper T l i = true then jchk T l n (i + 1) else (i, 17)
def jcheck (T : Tbl) (l : List Int) : Int × Int := if ordErr T l = 0 then jchk T l l.length 0 else (0, ordErr T l)
theorem nxUp_bd (T : Tbl) : ∀ (l : List Int) (k : Nat), nxUp T k l < (k + l.length : Nat) ∧ (nxUp T k l = -1 ∨ (k : Int) ≤ nxUp T k l)
 | [], k => ⟨by simp [nxUp]; omega, .inl rfl⟩
 | x :: r, k => by
  simp only [nxUp, List.length_cons]
  by_cases h : joiT T x = 5
  ·rw [if_pos h]
   obtain ⟨h1, h2⟩ := nxUp_bd T r (k + 1)
   exact ⟨by omega, h2.imp id (by omega)⟩
  ·rw [if_neg h]; omega
theorem nxDn_bd (T : Tbl) : ∀ (l : List Int), nxDn T l < (l.length : Int) ∧ -1 ≤ nxDn T l
 | [] => by simp [nxDn]
 | x :: r => by
  simp only [nxDn, List.length_cons]
  by_cases h : joiT T x = 5
  ·rw [if_pos h]
   obtain ⟨h1, h2⟩ := nxDn_bd T r
   omega
  ·rw [if_neg h]; omega
theorem nextB_bd (T : Tbl) (l : List Int) (i : Nat) (h : i < l.length) (up : Bool) : nextB T l i up < (l.length : Int) ∧ -1 ≤ nextB T l i up := by
 cases up
 ·have := nxDn_bd T (l.take i).reverse
  simp only [List.length_reverse, List.length_take] at this
  simp only [nextB, Bool.false_eq_true, if_false]
  omega
 ·have := nxUp_bd T (l.drop (i + 1)) (i + 1)
  simp only [List.length_drop] at this
  simp only [nextB, if_true]
  omega
theorem box_at' {t : TV} {w wb w' : World} (hwb : wb = (w.alloc (.cells #[.slice t.s0.a t.s0.n t.s0.c, .slice t.s1.a t.s1.n t.s1.c, .slice t.s2.a t.s2.n t.s2.c, .slice t.s3.a t.s3.n t.s3.c, .slice t.s4.a t.s4.n t.s4.c, .slice t.s5.a t.s5.n t.s5.c, .slice t.s6.a t.s6.n t.s6.c, .slice t.s7.a t.s7.n t.s7.c, .slice t.s8.a t.s8.n t.s8.c, .slice t.s9.a t.s9.n t.s9.c, .slice t.s10.a t.s10.n t.s10.c, .slice t.s11.a t.s11.n t.s11.c] 30))) (hb : Ext wb w') : ∀ k : Nat, w'.cell? ⟨w.heap.size, k, none⟩ = t.v.cells[k]? := by
 subst hwb
 exact box_at hb
theorem take_rev (l : List Int) (k : Nat) (h : k < l.length) : (l.take (k + 1)).reverse = l[k] :: (l.take k).reverse := by
 rw [List.take_succ_eq_append_getElem h]
 simp
theorem ord_wf {T : Tbl} {l : List Int} (h : ordErr T l = 0) : wfB T = true ∧ l.length ≤ 4096 := by
 unfold ordErr at h
 cases hw : wfB T
 ·rw [hw] at h; simp at h
 ·rw [hw] at h
  simp only [Bool.true_eq_false, if_false] at h
  by_cases h5 : 4096 < (l.length : Int)
  ·rw [if_pos h5] at h; omega
  ·exact ⟨rfl, by omega⟩
theorem existsB_true {T : Tbl} {l : List Int} {i : Int} (h : existsB T l i = true) : ∃ k : Nat, i = k ∧ k < l.length ∧ wfB T = true := by
 simp only [existsB, Bool.and_eq_true, decide_eq_true_eq, beq_iff_eq] at h
 exact ⟨i.toNat, by omega, by omega, (ord_wf h.1.1).1⟩
set_option maxHeartbeats 1600000 in
set_option maxRecDepth 100000 in
theorem next_up (t : TV) (T : Tbl) (l : List Int) (A : Option Addr) (n c : Nat) (i : Nat) (w : World) (ht : TblS w t T) (hs : Srt T) (h : IntS w ⟨A, n, c⟩ l) (hi : i < l.length) :
  Calls Tryd.prog 49 #[t.v, .slice A n c, .int .i64 i, .int .i64 1] w fun e w' => e = .returned (.int .i64 (nextB T l i true)) ∧ Ext w w' := by
 obtain ⟨hn, _, _⟩ := h.len
 subst hn
 have HT := Lib.hid ht
 have HI := Lib.hid h
 have hba : Ext w (w.alloc (.cells t.v.cells 30)) := (Ext.refl _).alloc_ _
 have HB : Hid (nextB T l i true = nxUp T (i + 1) (l.drop (i + 1))) := rfl
 go_enter Tryd.func49, Tryd.ntmps49
 go_wp2_with fail
 go_step3
 go_wp2_with fail
 go_step3
 go_wp2_with fail
 go_loopw [2, 9] (fun j f wr => ∃ (k : Nat), k ≤ l.length ∧ j = .int .i64 k ∧ f = .int .i64 (-1) ∧ Hid (nextB T l i true = nxUp T k (l.drop k)) ∧ Ext (w.alloc (.cells t.v.cells 30)) wr) (fun j _ _ => l.length - (intOf j).toNat)
 case atStart => exact ⟨i + 1, by omega, by go_num, rfl, HB, Ext.refl _⟩
 case round =>
  obtain ⟨k, hk, rfl, rfl, HR, hbr⟩ := hrel
  have hb0 := hba.trans' hbr
  have hk0 : (0 : Int) ≤ (k : Int) := Int.natCast_nonneg _
  by_cases hlt : k < l.length
  ·have HD : Hid (l.drop k = l[k] :: l.drop (k + 1)) := drop_at l k hlt
   obtain ⟨b, o, ha, h0⟩ := (HI.out.ext hb0).at_ hlt
   subst ha
   generalize l[k] = x at *
   have HS := hid_trans HR (show _ = if joiT T x = 5 then nxUp T (k + 1) (l.drop (k + 1)) else (k : Int) from by rw [HD.out]; rfl)
   have rT : ∀ yy : ExtW wr, ∀ k : Nat, yy.w.cell? ⟨w.heap.size, k, none⟩ = t.v.cells[k]? := fun yy => box_at (hbr.trans' yy.h)
   have rX : ∀ yy : ExtW wr, yy.w.cell? ⟨b, o + k, none⟩ = some (.int .i64 x) := ext_cell h0
   have hi1 : (k : Int) < (l.length : Int) := by omega
   clear HR HD h0
   go_wp2_with fail
   refine region_ext (by kernel_rfl) (by kernel_rfl) ?_
   repeat (go_big_quiet_step ((go_at_call 74; exact quiet_ext (joining_spec t T x _ (HT.out.ext_ (hb0.trans' (ExtW.h _))) hs))))
   refine wpQuiet_nil ?_
   rintro _ ⟨xw, rfl⟩
   have hbx := hbr.trans' xw.h
   clear rT rX
   by_cases hj : joiT T x = 5
   ·have hjb : (joiT T x == 5) = true := by rw [beq_iff_eq]; exact hj
    have HF := hid_trans HS (if_pos hj)
    clear HS hj
    go_wp2_with fail
    go_roundw
    case rel => exact ⟨k + 1, by omega, by go_num, rfl, HF, hbx⟩
    case measure => simp [intOf]; omega
   ·have hjb : (joiT T x == 5) = false := by rw [beq_eq_false_iff_ne]; exact hj
    have HF := hid_trans HS (if_neg hj)
    clear HS hj
    go_wp2_with fail
    rw [Exit.noGoto_ret]
    go_ret
    exact ⟨ret_int HF.out.symm, hba.trans' hbx⟩
  ·have HF := hid_trans HR (show _ = -1 from by rw [drop_all l k (by omega)]; rfl)
   have hi1 : ¬ (k : Int) < (l.length : Int) := by omega
   clear HR
   go_wp2_with fail
   go_ret
   exact ⟨ret_int HF.out.symm, hb0⟩
set_option maxHeartbeats 1600000 in
set_option maxRecDepth 100000 in
theorem next_dn (t : TV) (T : Tbl) (l : List Int) (A : Option Addr) (n c : Nat) (i : Nat) (w : World) (ht : TblS w t T) (hs : Srt T) (h : IntS w ⟨A, n, c⟩ l) (hi : i < l.length) :
  Calls Tryd.prog 49 #[t.v, .slice A n c, .int .i64 i, .int .i64 (-1)] w fun e w' => e = .returned (.int .i64 (nextB T l i false)) ∧ Ext w w' := by
 obtain ⟨hn, _, _⟩ := h.len
 subst hn
 have HT := Lib.hid ht
 have HI := Lib.hid h
 have hba : Ext w (w.alloc (.cells t.v.cells 30)) := (Ext.refl _).alloc_ _
 have HB : Hid (nextB T l i false = nxDn T (l.take i).reverse) := rfl
 go_enter Tryd.func49, Tryd.ntmps49
 go_wp2_with fail
 go_step3
 go_wp2_with fail
 go_step3
 go_wp2_with fail
 go_loopw [2, 9] (fun j f wr => ∃ (k : Nat), k ≤ l.length ∧ j = .int .i64 ((k : Int) - 1) ∧ f = .int .i64 (-1) ∧ Hid (nextB T l i false = nxDn T (l.take k).reverse) ∧ Ext (w.alloc (.cells t.v.cells 30)) wr) (fun j _ _ => (intOf j + 1).toNat)
 case atStart => exact ⟨i, by omega, by go_num, rfl, HB, Ext.refl _⟩
 case round =>
  obtain ⟨k, hk, rfl, rfl, HR, hbr⟩ := hrel
  have hb0 := hba.trans' hbr
  rcases Nat.eq_zero_or_pos k with hk0 | hk0
  ·subst hk0
   have HF := hid_trans HR (show _ = -1 from rfl)
   have hi1 : ¬ (0 : Int) ≤ ((0 : Nat) : Int) - 1 := by omega
   clear HR
   go_wp2_with fail
   go_ret
   exact ⟨ret_int HF.out.symm, hb0⟩
  ·obtain ⟨k, rfl⟩ : ∃ q, k = q + 1 := ⟨k - 1, by omega⟩
   have hlt : k < l.length := by omega
   have hkk : ((k + 1 : Nat) : Int) - 1 = (k : Int) := by omega
   rw [hkk]
   have hk0 : (0 : Int) ≤ (k : Int) := Int.natCast_nonneg _
   have HD : Hid ((l.take (k + 1)).reverse = l[k] :: (l.take k).reverse) := take_rev l k hlt
   have HLk : Hid (((l.take k).reverse.length : Int) = (k : Int)) := Lib.hid (by simp; omega)
   obtain ⟨b, o, ha, h0⟩ := (HI.out.ext hb0).at_ hlt
   subst ha
   generalize l[k] = x at *
   have HS := hid_trans HR (show _ = if joiT T x = 5 then nxDn T (l.take k).reverse else (k : Int) from by rw [HD.out, ← HLk.out]; rfl)
   have rT : ∀ yy : ExtW wr, ∀ k : Nat, yy.w.cell? ⟨w.heap.size, k, none⟩ = t.v.cells[k]? := fun yy => box_at (hbr.trans' yy.h)
   have rX : ∀ yy : ExtW wr, yy.w.cell? ⟨b, o + k, none⟩ = some (.int .i64 x) := ext_cell h0
   have hi1 : (k : Int) < (l.length : Int) := by omega
   clear HR HD h0 HLk
   go_wp2_with fail
   refine region_ext (by kernel_rfl) (by kernel_rfl) ?_
   repeat (go_big_quiet_step ((go_at_call 74; exact quiet_ext (joining_spec t T x _ (HT.out.ext_ (hb0.trans' (ExtW.h _))) hs))))
   refine wpQuiet_nil ?_
   rintro _ ⟨xw, rfl⟩
   have hbx := hbr.trans' xw.h
   clear rT rX
   by_cases hj : joiT T x = 5
   ·have hjb : (joiT T x == 5) = true := by rw [beq_iff_eq]; exact hj
    have HF := hid_trans HS (if_pos hj)
    clear HS hj
    go_wp2_with fail
    go_roundw
    case rel => exact ⟨k, by omega, by trivial, rfl, HF, hbx⟩
    case measure => simp [intOf]; omega
   ·have hjb : (joiT T x == 5) = false := by rw [beq_eq_false_iff_ne]; exact hj
    have HF := hid_trans HS (if_neg hj)
    clear HS hj
    go_wp2_with fail
    rw [Exit.noGoto_ret]
    go_ret
    exact ⟨ret_int HF.out.symm, hba.trans' hbx⟩
set_option maxHeartbeats 1600000 in
set_option maxRecDepth 100000 in
theorem joins_spec (t : TV) (T : Tbl) (l : List Int) (A : Option Addr) (n c : Nat) (i side : Int) (w : World) (ht : TblS w t T) (hs : Srt T) (h : IntS w ⟨A, n, c⟩ l) (hi : i < (l.length : Int)) :
  Calls Tryd.prog 48 #[t.v, .slice A n c, .int .i64 i, .int .i64 side] w fun e w' => e = .returned (.bool (joinsB T l i side)) ∧ Ext w w' := by
 obtain ⟨hn, _, _⟩ := h.len
 subst hn
 have HT := Lib.hid ht
 have HI := Lib.hid h
 obtain ⟨wb, hwb⟩ : ∃ wb, wb = (w.alloc (.cells #[.slice t.s0.a t.s0.n t.s0.c, .slice t.s1.a t.s1.n t.s1.c, .slice t.s2.a t.s2.n t.s2.c, .slice t.s3.a t.s3.n t.s3.c, .slice t.s4.a t.s4.n t.s4.c, .slice t.s5.a t.s5.n t.s5.c, .slice t.s6.a t.s6.n t.s6.c, .slice t.s7.a t.s7.n t.s7.c, .slice t.s8.a t.s8.n t.s8.c, .slice t.s9.a t.s9.n t.s9.c, .slice t.s10.a t.s10.n t.s10.c, .slice t.s11.a t.s11.n t.s11.c] 30)) := ⟨_, rfl⟩
 have hba : Ext w wb := by rw [hwb]; exact (Ext.refl _).alloc_ _
 by_cases h0 : i < 0
 ·have HF : Hid (joinsB T l i side = false) := Lib.hid (by simp [joinsB, h0])
  go_enter Tryd.func48, Tryd.ntmps48
  go_wp2_with fail
  go_ret
  exact ⟨ret_bool HF.out.symm, by rw [hwb] at hba; exact hba⟩
 ·obtain ⟨k, rfl⟩ : ∃ k : Nat, i = k := ⟨i.toNat, by omega⟩
  have hlt : k < l.length := by omega
  have HD : Hid (l.getD k 0 = l[k]) := getD_lt l k 0 hlt
  obtain ⟨b, o, ha, h1⟩ := (HI.out.ext hba).at_ hlt
  subst ha
  generalize l[k] = x at *
  have HF : Hid (joinsB T l k side = (joiT T x == side || joiT T x == 3)) := Lib.hid (by unfold joinsB; rw [if_neg h0, Int.toNat_natCast, HD.out])
  have rT : ∀ yy : ExtW wb, ∀ k : Nat, yy.w.cell? ⟨w.heap.size, k, none⟩ = t.v.cells[k]? := fun yy => box_at' hwb yy.h
  have rX : ∀ yy : ExtW wb, yy.w.cell? ⟨b, o + k, none⟩ = some (.int .i64 x) := ext_cell h1
  have hk0 : (0 : Int) ≤ (k : Int) := Int.natCast_nonneg _
  clear HD h1
  go_enter Tryd.func48, Tryd.ntmps48
  go_wp2_with fail
  rw [← hwb]
  refine region_ext (by kernel_rfl) (by kernel_rfl) ?_
  repeat (go_big_quiet_step ((go_at_call 74; exact quiet_ext (joining_spec t T x _ (HT.out.ext_ (hba.trans' (ExtW.h _))) hs))))
  refine wpQuiet_nil ?_
  rintro _ ⟨xw, rfl⟩
  have hbx := hba.trans' xw.h
  clear rT rX hwb hba
  generalize hb1 : (joiT T x == side) = b1 at HF
  generalize hb2 : (joiT T x == 3) = b2 at HF
  cases b1 <;> cases b2
  all_goals
   go_wp2_with fail
   go_ret
   exact ⟨ret_bool HF.out.symm, hbx⟩
end Go.Proofs.YtbdabjhankgcmaaDoor
namespace Go.Proofs.YtbdabjhankgcmaaDoor
open Go.RowKit
set_option maxHeartbeats 3200000 in
set_option maxRecDepth 100000 in
theorem jper_spec (t : TV) (T : Tbl) (l : List Int) (A : Option Addr) (n c : Nat) (i : Nat) (w : World) (ht : TblS w t T) (hs : Srt T) (h : IntS w ⟨A, n, c⟩ l) (hi : i < l.length) :
  Calls Tryd.prog 35 #[t.v, .slice A n c, .int .i64 i] w fun e w' => e = .returned (.bool (jper T l i)) ∧ Ext w w' := by
 obtain ⟨hn, _, _⟩ := h.len
 subst hn
 have HT := Lib.hid ht
 have HI := Lib.hid h
 obtain ⟨wb, hwb⟩ : ∃ wb, wb = (w.alloc (.cells #[.slice t.s0.a t.s0.n t.s0.c, .slice t.s1.a t.s1.n t.s1.c, .slice t.s2.a t.s2.n t.s2.c, .slice t.s3.a t.s3.n t.s3.c, .slice t.s4.a t.s4.n t.s4.c, .slice t.s5.a t.s5.n t.s5.c, .slice t.s6.a t.s6.n t.s6.c, .slice t.s7.a t.s7.n t.s7.c, .slice t.s8.a t.s8.n t.s8.c, .slice t.s9.a t.s9.n t.s9.c, .slice t.s10.a t.s10.n t.s10.c, .slice t.s11.a t.s11.n t.s11.c] 30)) := ⟨_, rfl⟩
 have hba : Ext w wb := by rw [hwb]; exact (Ext.refl _).alloc_ _
 have HD : Hid (l.getD i 0 = l[i]) := getD_lt l i 0 hi
 obtain ⟨b, o, ha, h1⟩ := (HI.out.ext hba).at_ hi
 subst ha
 have HN1 := Lib.hid (nextB_bd T l i hi false)
 have HN2 := Lib.hid (nextB_bd T l i hi true)
 generalize l[i] = x at *
 have HF : Hid (jper T l i = if (!(x == 8204) && !(x == 8205)) = true then true else if (decide (0 < i) && clsT T (l.getD (i - 1) 0) == 9) = true then true
   else x == 8204 && joinsB T l (nextB T l i false) 1 && joinsB T l (nextB T l i true) 2) := Lib.hid (by unfold jper; rw [HD.out])
 have rT : ∀ yy : ExtW wb, ∀ k : Nat, yy.w.cell? ⟨w.heap.size, k, none⟩ = t.v.cells[k]? := fun yy => box_at' hwb yy.h
 have rX : ∀ yy : ExtW wb, yy.w.cell? ⟨b, o + i, none⟩ = some (.int .i64 x) := ext_cell h1
 have hk0 : (0 : Int) ≤ (i : Int) := Int.natCast_nonneg _
 have hk1 : (i : Int) < (l.length : Int) := by omega
 clear HD
 have h1a : (w.alloc (.cells #[.slice t.s0.a t.s0.n t.s0.c, .slice t.s1.a t.s1.n t.s1.c, .slice t.s2.a t.s2.n t.s2.c, .slice t.s3.a t.s3.n t.s3.c, .slice t.s4.a t.s4.n t.s4.c, .slice t.s5.a t.s5.n t.s5.c, .slice t.s6.a t.s6.n t.s6.c, .slice t.s7.a t.s7.n t.s7.c, .slice t.s8.a t.s8.n t.s8.c, .slice t.s9.a t.s9.n t.s9.c, .slice t.s10.a t.s10.n t.s10.c, .slice t.s11.a t.s11.n t.s11.c] 30)).cell? ⟨b, o + i, none⟩ = some (.int .i64 x) := by rw [← hwb]; exact h1
 clear h1
 by_cases hx : x = 8204 ∨ x = 8205
 ·have HG : Hid (∀ v0, (decide (0 < i) && clsT T (l.getD (i - 1) 0) == 9) = v0 → jper T l i = if v0 = true then true else (x == 8204 && joinsB T l (nextB T l i false) 1 && joinsB T l (nextB T l i true) 2)) := Lib.hid (by
   intro v0 h
   rw [HF.out, h, if_neg (by rcases hx with rfl | rfl <;> decide)])
  clear HF
  have hz : Hid (0 < i → ∃ y, l.getD (i - 1) 0 = y ∧ wb.cell? ⟨b, o + (i - 1), none⟩ = some (.int .i64 y)) := Lib.hid (fun h0 => by
   obtain ⟨b', o', hbo, h2⟩ := (HI.out.ext hba).at_ (i := i - 1) (by omega)
   injection hbo with hbo
   injection hbo with e1 e2
   subst e1 e2
   exact ⟨_, getD_lt l (i - 1) 0 (by omega), h2⟩)
  rcases Nat.eq_zero_or_pos i with hi0 | hi0
  ·have hd : decide ((0 : Int) < (i : Int)) = false := by rw [decide_eq_false_iff_not]; omega
   have hd2 : decide (0 < i) = false := by rw [decide_eq_false_iff_not]; omega
   have HG2 : Hid (jper T l i = (x == 8204 && joinsB T l (nextB T l i false) 1 && joinsB T l (nextB T l i true) 2)) := Lib.hid (by rw [HG.out false (by simp [hi0])]; rfl)
   clear HG hz hi0
   rcases hx with rfl | rfl
   ·have HG3 : Hid (jper T l i = (joinsB T l (nextB T l i false) 1 && joinsB T l (nextB T l i true) 2)) := Lib.hid (by rw [HG2.out]; simp)
    clear HG2
    go_enter Tryd.func35, Tryd.ntmps35
    go_wp2_with fail
    rw [← hwb]
    refine region_ext (by kernel_rfl) (by kernel_rfl) ?_
    repeat (go_big_quiet_step (fail))
    refine wpQuiet_nil ?_
    rintro _ ⟨xw, rfl⟩
    have hbx := hba.trans' xw.h
    have rT2 : ∀ yy : ExtW xw.w, ∀ k : Nat, yy.w.cell? ⟨w.heap.size, k, none⟩ = t.v.cells[k]? := fun yy => box_at' hwb (xw.h.trans' yy.h)
    have rX2 : ∀ yy : ExtW xw.w, yy.w.cell? ⟨b, o + i, none⟩ = some (.int .i64 8204) := ext_cell (rX xw)
    clear rT rX h1a hwb hba
    cases hJ : joinsB T l (nextB T l i false) 1
    ·have HG4 : Hid (jper T l i = false) := Lib.hid (by rw [HG3.out, hJ]; rfl)
     clear HG3
     go_wp2_with fail
     refine region_ext (by kernel_rfl) (by kernel_rfl) ?_
     repeat (go_big_quiet_step ((first | (go_at_call 49; first | with_reducible exact quiet_ext (next_dn t T l _ _ c i _ (HT.out.ext_ (hbx.trans' (ExtW.h _))) hs (HI.out.ext (hbx.trans' (ExtW.h _))) hi) | with_reducible exact quiet_ext (next_up t T l _ _ c i _ (HT.out.ext_ (hbx.trans' (ExtW.h _))) hs (HI.out.ext (hbx.trans' (ExtW.h _))) hi)) | (go_at_call 48; first | with_reducible exact quiet_ext (joins_spec t T l _ _ c _ _ _ (HT.out.ext_ (hbx.trans' (ExtW.h _))) hs (HI.out.ext (hbx.trans' (ExtW.h _))) HN1.out.1) | with_reducible exact quiet_ext (joins_spec t T l _ _ c _ _ _ (HT.out.ext_ (hbx.trans' (ExtW.h _))) hs (HI.out.ext (hbx.trans' (ExtW.h _))) HN2.out.1)))))
     refine wpQuiet_nil ?_
     rintro _ ⟨zw, rfl⟩
     have hbz := hbx.trans' zw.h
     go_wp2_with fail
     go_ret
     exact ⟨ret_bool HG4.out.symm, hbz⟩
    ·have HG4 : Hid (jper T l i = joinsB T l (nextB T l i true) 2) := Lib.hid (by rw [HG3.out, hJ]; rfl)
     clear HG3
     go_wp2_with fail
     refine region_ext (by kernel_rfl) (by kernel_rfl) ?_
     repeat (go_big_quiet_step ((first | (go_at_call 49; first | with_reducible exact quiet_ext (next_dn t T l _ _ c i _ (HT.out.ext_ (hbx.trans' (ExtW.h _))) hs (HI.out.ext (hbx.trans' (ExtW.h _))) hi) | with_reducible exact quiet_ext (next_up t T l _ _ c i _ (HT.out.ext_ (hbx.trans' (ExtW.h _))) hs (HI.out.ext (hbx.trans' (ExtW.h _))) hi)) | (go_at_call 48; first | with_reducible exact quiet_ext (joins_spec t T l _ _ c _ _ _ (HT.out.ext_ (hbx.trans' (ExtW.h _))) hs (HI.out.ext (hbx.trans' (ExtW.h _))) HN1.out.1) | with_reducible exact quiet_ext (joins_spec t T l _ _ c _ _ _ (HT.out.ext_ (hbx.trans' (ExtW.h _))) hs (HI.out.ext (hbx.trans' (ExtW.h _))) HN2.out.1)))))
     refine wpQuiet_nil ?_
     rintro _ ⟨zw, rfl⟩
     have hbz := hbx.trans' zw.h
     go_wp2_with fail
     go_ret
     exact ⟨ret_bool HG4.out.symm, hbz⟩
   ·have HG4 : Hid (jper T l i = false) := Lib.hid (by rw [HG2.out]; rfl)
    clear HG2
    go_enter Tryd.func35, Tryd.ntmps35
    go_wp2_with fail
    rw [← hwb]
    refine region_ext (by kernel_rfl) (by kernel_rfl) ?_
    repeat (go_big_quiet_step (fail))
    refine wpQuiet_nil ?_
    rintro _ ⟨xw, rfl⟩
    have hbx := hba.trans' xw.h
    have rT2 : ∀ yy : ExtW xw.w, ∀ k : Nat, yy.w.cell? ⟨w.heap.size, k, none⟩ = t.v.cells[k]? := fun yy => box_at' hwb (xw.h.trans' yy.h)
    have rX2 : ∀ yy : ExtW xw.w, yy.w.cell? ⟨b, o + i, none⟩ = some (.int .i64 8205) := ext_cell (rX xw)
    clear rT rX h1a hwb hba
    go_wp2_with fail
    refine region_ext (by kernel_rfl) (by kernel_rfl) ?_
    repeat (go_big_quiet_step ((first | (go_at_call 49; first | with_reducible exact quiet_ext (next_dn t T l _ _ c i _ (HT.out.ext_ (hbx.trans' (ExtW.h _))) hs (HI.out.ext (hbx.trans' (ExtW.h _))) hi) | with_reducible exact quiet_ext (next_up t T l _ _ c i _ (HT.out.ext_ (hbx.trans' (ExtW.h _))) hs (HI.out.ext (hbx.trans' (ExtW.h _))) hi)) | (go_at_call 48; first | with_reducible exact quiet_ext (joins_spec t T l _ _ c _ _ _ (HT.out.ext_ (hbx.trans' (ExtW.h _))) hs (HI.out.ext (hbx.trans' (ExtW.h _))) HN1.out.1) | with_reducible exact quiet_ext (joins_spec t T l _ _ c _ _ _ (HT.out.ext_ (hbx.trans' (ExtW.h _))) hs (HI.out.ext (hbx.trans' (ExtW.h _))) HN2.out.1)))))
    refine wpQuiet_nil ?_
    rintro _ ⟨zw, rfl⟩
    have hbz := hbx.trans' zw.h
    go_wp2_with fail
    go_ret
    exact ⟨ret_bool HG4.out.symm, hbz⟩
  ·obtain ⟨y, hy, hcy⟩ := hz.out hi0
   obtain ⟨k, hk⟩ : ∃ k, i = k + 1 := ⟨i - 1, by omega⟩
   have hd : decide ((0 : Int) < (i : Int)) = true := by rw [decide_eq_true_eq]; omega
   have hd2 : decide (0 < i) = true := by rw [decide_eq_true_eq]; omega
   have hsub : (i : Int) - 1 = (k : Int) := by omega
   have hki : i - 1 = k := by omega
   rw [hki] at hcy
   have rY : ∀ yy : ExtW wb, yy.w.cell? ⟨b, o + k, none⟩ = some (.int .i64 y) := ext_cell hcy
   have hkk0 : (0 : Int) ≤ (k : Int) := Int.natCast_nonneg _
   have hkk1 : (k : Int) < (l.length : Int) := by omega
   have HG1 := HG.out _ rfl
   rw [hy, hd2] at HG1
   clear HG hz hcy hk hki
   cases hv : (clsT T y == 9)
   ·have HG2 : Hid (jper T l i = (x == 8204 && joinsB T l (nextB T l i false) 1 && joinsB T l (nextB T l i true) 2)) := Lib.hid (by rw [HG1, hv]; rfl)
    clear HG1
    rcases hx with rfl | rfl
    ·have HG3 : Hid (jper T l i = (joinsB T l (nextB T l i false) 1 && joinsB T l (nextB T l i true) 2)) := Lib.hid (by rw [HG2.out]; simp)
     clear HG2
     go_enter Tryd.func35, Tryd.ntmps35
     go_wp2_with fail
     rw [← hwb]
     refine region_ext (by kernel_rfl) (by kernel_rfl) ?_
     repeat (go_big_quiet_step ((go_at_call 42; with_reducible exact quiet_ext (class_spec t T y _ (HT.out.ext_ (hba.trans' (ExtW.h _))) hs))))
     refine wpQuiet_nil ?_
     rintro _ ⟨xw, rfl⟩
     have hbx := hba.trans' xw.h
     have rT2 : ∀ yy : ExtW xw.w, ∀ k : Nat, yy.w.cell? ⟨w.heap.size, k, none⟩ = t.v.cells[k]? := fun yy => box_at' hwb (xw.h.trans' yy.h)
     have rX2 : ∀ yy : ExtW xw.w, yy.w.cell? ⟨b, o + i, none⟩ = some (.int .i64 8204) := ext_cell (rX xw)
     clear rT rX h1a hwb hba
     cases hJ : joinsB T l (nextB T l i false) 1
     ·have HG4 : Hid (jper T l i = false) := Lib.hid (by rw [HG3.out, hJ]; rfl)
      clear HG3
      go_wp2_with fail
      refine region_ext (by kernel_rfl) (by kernel_rfl) ?_
      repeat (go_big_quiet_step ((first | (go_at_call 49; first | with_reducible exact quiet_ext (next_dn t T l _ _ c i _ (HT.out.ext_ (hbx.trans' (ExtW.h _))) hs (HI.out.ext (hbx.trans' (ExtW.h _))) hi) | with_reducible exact quiet_ext (next_up t T l _ _ c i _ (HT.out.ext_ (hbx.trans' (ExtW.h _))) hs (HI.out.ext (hbx.trans' (ExtW.h _))) hi)) | (go_at_call 48; first | with_reducible exact quiet_ext (joins_spec t T l _ _ c _ _ _ (HT.out.ext_ (hbx.trans' (ExtW.h _))) hs (HI.out.ext (hbx.trans' (ExtW.h _))) HN1.out.1) | with_reducible exact quiet_ext (joins_spec t T l _ _ c _ _ _ (HT.out.ext_ (hbx.trans' (ExtW.h _))) hs (HI.out.ext (hbx.trans' (ExtW.h _))) HN2.out.1)))))
      refine wpQuiet_nil ?_
      rintro _ ⟨zw, rfl⟩
      have hbz := hbx.trans' zw.h
      go_wp2_with fail
      go_ret
      exact ⟨ret_bool HG4.out.symm, hbz⟩
     ·have HG4 : Hid (jper T l i = joinsB T l (nextB T l i true) 2) := Lib.hid (by rw [HG3.out, hJ]; rfl)
      clear HG3
      go_wp2_with fail
      refine region_ext (by kernel_rfl) (by kernel_rfl) ?_
      repeat (go_big_quiet_step ((first | (go_at_call 49; first | with_reducible exact quiet_ext (next_dn t T l _ _ c i _ (HT.out.ext_ (hbx.trans' (ExtW.h _))) hs (HI.out.ext (hbx.trans' (ExtW.h _))) hi) | with_reducible exact quiet_ext (next_up t T l _ _ c i _ (HT.out.ext_ (hbx.trans' (ExtW.h _))) hs (HI.out.ext (hbx.trans' (ExtW.h _))) hi)) | (go_at_call 48; first | with_reducible exact quiet_ext (joins_spec t T l _ _ c _ _ _ (HT.out.ext_ (hbx.trans' (ExtW.h _))) hs (HI.out.ext (hbx.trans' (ExtW.h _))) HN1.out.1) | with_reducible exact quiet_ext (joins_spec t T l _ _ c _ _ _ (HT.out.ext_ (hbx.trans' (ExtW.h _))) hs (HI.out.ext (hbx.trans' (ExtW.h _))) HN2.out.1)))))
      refine wpQuiet_nil ?_
      rintro _ ⟨zw, rfl⟩
      have hbz := hbx.trans' zw.h
      go_wp2_with fail
      go_ret
      exact ⟨ret_bool HG4.out.symm, hbz⟩
    ·have HG4 : Hid (jper T l i = false) := Lib.hid (by rw [HG2.out]; rfl)
     clear HG2
     go_enter Tryd.func35, Tryd.ntmps35
     go_wp2_with fail
     rw [← hwb]
     refine region_ext (by kernel_rfl) (by kernel_rfl) ?_
     repeat (go_big_quiet_step ((go_at_call 42; with_reducible exact quiet_ext (class_spec t T y _ (HT.out.ext_ (hba.trans' (ExtW.h _))) hs))))
     refine wpQuiet_nil ?_
     rintro _ ⟨xw, rfl⟩
     have hbx := hba.trans' xw.h
     have rT2 : ∀ yy : ExtW xw.w, ∀ k : Nat, yy.w.cell? ⟨w.heap.size, k, none⟩ = t.v.cells[k]? := fun yy => box_at' hwb (xw.h.trans' yy.h)
     have rX2 : ∀ yy : ExtW xw.w, yy.w.cell? ⟨b, o + i, none⟩ = some (.int .i64 8205) := ext_cell (rX xw)
     clear rT rX h1a hwb hba
     go_wp2_with fail
     refine region_ext (by kernel_rfl) (by kernel_rfl) ?_
     repeat (go_big_quiet_step ((first | (go_at_call 49; first | with_reducible exact quiet_ext (next_dn t T l _ _ c i _ (HT.out.ext_ (hbx.trans' (ExtW.h _))) hs (HI.out.ext (hbx.trans' (ExtW.h _))) hi) | with_reducible exact quiet_ext (next_up t T l _ _ c i _ (HT.out.ext_ (hbx.trans' (ExtW.h _))) hs (HI.out.ext (hbx.trans' (ExtW.h _))) hi)) | (go_at_call 48; first | with_reducible exact quiet_ext (joins_spec t T l _ _ c _ _ _ (HT.out.ext_ (hbx.trans' (ExtW.h _))) hs (HI.out.ext (hbx.trans' (ExtW.h _))) HN1.out.1) | with_reducible exact quiet_ext (joins_spec t T l _ _ c _ _ _ (HT.out.ext_ (hbx.trans' (ExtW.h _))) hs (HI.out.ext (hbx.trans' (ExtW.h _))) HN2.out.1)))))
     refine wpQuiet_nil ?_
     rintro _ ⟨zw, rfl⟩
     have hbz := hbx.trans' zw.h
     go_wp2_with fail
     go_ret
     exact ⟨ret_bool HG4.out.symm, hbz⟩
   ·have HG4 : Hid (jper T l i = true) := Lib.hid (by rw [HG1, hv]; rfl)
    clear HG1
    have hx1 : Hid (x = 8204 ∨ x = 8205) := hx
    clear hx
    rcases hx1.out with rfl | rfl
    all_goals
     go_enter Tryd.func35, Tryd.ntmps35
     go_wp2_with fail
     rw [← hwb]
     refine region_ext (by kernel_rfl) (by kernel_rfl) ?_
     repeat (go_big_quiet_step ((go_at_call 42; with_reducible exact quiet_ext (class_spec t T y _ (HT.out.ext_ (hba.trans' (ExtW.h _))) hs))))
     refine wpQuiet_nil ?_
     rintro _ ⟨xw, rfl⟩
     have hbx := hba.trans' xw.h
     go_wp2_with fail
     go_ret
     exact ⟨ret_bool HG4.out.symm, hbx⟩
 ·have HF2 : Hid (jper T l i = true) := Lib.hid (by rw [HF.out, if_pos (by simp only [not_or] at hx; simp [hx.1, hx.2])])
  have e1 : (x != 8204) = true := by rw [bne_iff_ne]; exact fun h => hx (.inl h)
  have e2 : (x != 8205) = true := by rw [bne_iff_ne]; exact fun h => hx (.inr h)
  clear hx HF
  go_enter Tryd.func35, Tryd.ntmps35
  go_wp2_with fail
  go_ret
  exact ⟨ret_bool HF2.out.symm, by rw [hwb] at hba; exact hba⟩
end Go.Proofs.YtbdabjhankgcmaaDoor
namespace Go.Proofs.YtbdabjhankgcmaaDoor
open Go.RowKit
theorem jchk_le (T : Tbl) (l : List Int) : ∀ n i, jchk T l n i = (0, 0) ∨ ∃ k : Nat, jchk T l n i = ((k : Int), 17)
 | 0, _ => .inl rfl
 | n + 1, i => by
  simp only [jchk]
  by_cases h : jper T l i = true
  ·rw [if_pos h]; exact jchk_le T l n (i + 1)
  ·rw [if_neg h]; exact .inr ⟨(i : Nat), rfl⟩
set_option maxHeartbeats 1600000 in
set_option maxRecDepth 100000 in
theorem jcheck_spec (t : TV) (T : Tbl) (l : List Int) (A : Option Addr) (n c : Nat) (w : World) (ht : TblS w t T) (h : IntS w ⟨A, n, c⟩ l) :
  Calls Tryd.prog 24 #[t.v, .slice A n c] w fun e w' => e = .returned (.tuple #[.int .i64 (jcheck T l).1, .int .i64 (jcheck T l).2]) ∧ Ext w w' := by
 obtain ⟨hn, _, _⟩ := h.len
 subst hn
 have HT := Lib.hid ht
 have HI := Lib.hid h
 have hba := tw_ext w t
 go_enter Tryd.func24, Tryd.ntmps24
 go_wp2_with fail
 refine (order_spec t T l A _ c _ (HT.out.ext_ hba) (HI.out.ext hba)).mono ?_
 rintro e w1 ⟨v, rfl, hb1, _⟩
 have hb01 := hba.trans' hb1
 by_cases hz : ordErr T l = 0
 ·have HW := Lib.hid (wf_srt (ord_wf hz).1)
  have HB : Hid (jcheck T l = jchk T l (l.length - 0) 0) := Lib.hid (by simp [jcheck, hz])
  rw [hz]
  clear hz
  go_wp2_with fail
  go_loopw [20] (fun j wr => ∃ (k : Nat), k ≤ l.length ∧ j = .int .i64 k ∧ Hid (jcheck T l = jchk T l (l.length - k) k) ∧ Ext (w.alloc (.cells #[.slice t.s0.a t.s0.n t.s0.c, .slice t.s1.a t.s1.n t.s1.c, .slice t.s2.a t.s2.n t.s2.c, .slice t.s3.a t.s3.n t.s3.c, .slice t.s4.a t.s4.n t.s4.c, .slice t.s5.a t.s5.n t.s5.c, .slice t.s6.a t.s6.n t.s6.c, .slice t.s7.a t.s7.n t.s7.c, .slice t.s8.a t.s8.n t.s8.c, .slice t.s9.a t.s9.n t.s9.c, .slice t.s10.a t.s10.n t.s10.c, .slice t.s11.a t.s11.n t.s11.c] 30)) wr) (fun j _ => l.length - (intOf j).toNat)
  case atStart => exact ⟨0, Nat.zero_le _, rfl, HB, hb1⟩
  case round =>
   obtain ⟨k, hk, rfl, HR, hbr⟩ := hrel
   have hb0 := hba.trans' hbr
   have rT : ∀ k : Nat, wr.cell? ⟨w.heap.size, k, none⟩ = t.v.cells[k]? := box_at hbr
   by_cases hlt : k < l.length
   ·have HS := hid_trans HR (show _ = if jper T l k = true then jchk T l (l.length - (k + 1)) (k + 1) else ((k : Int), (17 : Int)) from by
     rw [show l.length - k = (l.length - (k + 1)) + 1 from by omega]; rfl)
    clear HR HB
    cases hv : jper T l k
    ·have HF := hid_trans HS (show _ = ((k : Int), (17 : Int)) from by rw [hv]; simp)
     have HV := Lib.hid hv
     clear HS hv
     go_wp2_with (go_at_call 35; refine (jper_spec t T l A _ c k _ (HT.out.ext_ hb0) HW.out (HI.out.ext hb0) hlt).mono ?_; rintro e w2 ⟨rfl, hb2⟩; rw [HV.out])
     go_ret2
     exact ⟨by rw [HF.out]; rfl, hb0.trans' hb2⟩
    ·have HF := hid_trans HS (show _ = jchk T l (l.length - (k + 1)) (k + 1) from by rw [hv]; simp)
     have HV := Lib.hid hv
     clear HS hv
     go_wp2_with (go_at_call 35; refine (jper_spec t T l A _ c k _ (HT.out.ext_ hb0) HW.out (HI.out.ext hb0) hlt).mono ?_; rintro e w2 ⟨rfl, hb2⟩; rw [HV.out])
     go_roundw
     case rel => exact ⟨k + 1, by omega, by go_num, HF, hbr.trans' hb2⟩
     case measure => simp [intOf]; omega
   ·have HF := hid_trans HR (show _ = ((0 : Int), (0 : Int)) from by rw [show l.length - k = 0 from by omega]; rfl)
    clear HR HB
    go_wp2_with fail
    go_ret2
    exact ⟨by rw [HF.out]; rfl, hb0⟩
 ·have hzb : (ordErr T l == 0) = false := by rw [beq_eq_false_iff_ne]; exact hz
  have HF : Hid (jcheck T l = (0, ordErr T l)) := Lib.hid (by simp [jcheck, hz])
  clear hz
  go_wp2_with fail
  go_ret2
  exact ⟨by rw [HF.out]; rfl, hb01⟩
end Go.Proofs.YtbdabjhankgcmaaDoor
