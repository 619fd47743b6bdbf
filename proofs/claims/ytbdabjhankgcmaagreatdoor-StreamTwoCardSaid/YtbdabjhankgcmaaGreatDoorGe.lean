/- Walks: slices.ContainsFunc, order.check, order.Sort, order.Order. Walks: order.Sort, order.Order. -/
import Derived.Test.YtbdabjhankgcmaaGreatDoorCk
import Derived.Test.YtbdabjhankgcmaaGreatDoorGa
import Derived.RegionTactic
import Derived.ChangeAlike
namespace Go.Proofs.YtbdabjhankgcmaaGreatDoor
open Go.RowKit
def ordErr (T : Tbl) (l : List Int) : Int := if wfB T = false then 2 else if 4096 < (l.length : Int) then 7 else if l.any (fun c => !scalarB c) then 3 else 0
def idxOf (p : Int → Bool) : Int → List Int → Int
 | _, [] => -1
 | i, x :: r => if p x = true then i else idxOf p (i + 1) r
theorem idxOf_ge (p : Int → Bool) : ∀ (l : List Int) (i : Int), 0 ≤ i → (0 ≤ idxOf p i l ↔ l.any p = true)
 | [], i, _ => by simp [idxOf]
 | x :: r, i, h => by
  simp only [idxOf, List.any_cons, Bool.or_eq_true]
  by_cases hx : p x = true
  ·simp [hx, h]
  ·rw [if_neg hx]
   have := idxOf_ge p r (i + 1) (by omega)
   simp [hx, this]
set_option maxHeartbeats 800000 in
set_option maxRecDepth 100000 in
theorem indexFunc_spec (f : FuncId) (caps : Array Value) (p : Int → Bool) (l : List Int) (A : Option Addr) (n c : Nat) (w : World) (h : IntS w ⟨A, n, c⟩ l)
  (hcall : ∀ args w, (callFunc f args).run Tryz.prog w = .ok (.enter f args) w)
  (hp : ∀ x ∈ l, ∀ w', Ext w w' → Calls Tryz.prog f (#[.int .i64 x] ++ caps) w' fun e w'' => e = .returned (.bool (p x)) ∧ Ext w' w'') :
  Calls Tryz.prog 186 #[.slice A n c, .func (.func f) #[] caps] w fun e w' => e = .returned (.int .i64 (idxOf p 0 l)) ∧ Ext w w' := by
 obtain ⟨hn, _, _⟩ := h.len
 subst hn
 have HP := Lib.hid hp
 clear hp
 go_enter Tryz.func186, Tryz.ntmps186
 go_wp2_with fail
 go_loopw [8] (fun i wr => ∃ (k : Nat), k ≤ l.length ∧ i = .int .i64 k ∧ Hid (idxOf p 0 l = idxOf p k (l.drop k)) ∧ Ext w wr) (fun i _ => l.length - (intOf i).toNat)
 case atStart => exact ⟨0, Nat.zero_le _, rfl, rfl, Ext.refl _⟩
 case round =>
  obtain ⟨k, hk, rfl, HR, hbr⟩ := hrel
  by_cases hlt : k < l.length
  ·obtain ⟨b, o, ha, h0⟩ := (h.ext hbr).at_ hlt
   subst ha
   have HD : Hid (l.drop k = l[k] :: l.drop (k + 1)) := drop_at l k hlt
   have HM : Hid (l[k] ∈ l) := List.getElem_mem _
   generalize l[k] = x at *
   have HS := hid_trans HR (show _ = (if p x = true then (k : Int) else idxOf p ((k : Int) + 1) (l.drop (k + 1))) from by rw [HD.out]; rfl)
   clear HR HD
   go_wp2_with fail
   refine (HP.out x HM.out wr hbr).mono ?_
   rintro e w1 ⟨rfl, hb1⟩
   cases hv : p x
   ·have HF := hid_trans HS (show _ = idxOf p ((k + 1 : Nat) : Int) (l.drop (k + 1)) from by rw [hv]; simp)
    clear HS hv
    go_wp2_with fail
    go_roundw
    case rel => exact ⟨k + 1, by omega, by go_num, HF, hbr.trans' hb1⟩
    case measure => simp [intOf]; omega
   ·have HF := hid_trans HS (if_pos hv)
    clear HS hv
    go_wp2_with fail
    go_ret
    exact ⟨ret_int (by rw [HF.out]), hbr.trans' hb1⟩
  ·have HF := hid_trans HR (show _ = (-1 : Int) from by rw [drop_all l k (by omega)]; rfl)
   clear HR
   go_wp2_with fail
   go_ret
   exact ⟨ret_int (by rw [HF.out]), hbr⟩
theorem containsFunc_spec (f : FuncId) (caps : Array Value) (p : Int → Bool) (l : List Int) (A : Option Addr) (n c : Nat) (w : World) (h : IntS w ⟨A, n, c⟩ l)
  (hcall : ∀ args w, (callFunc f args).run Tryz.prog w = .ok (.enter f args) w)
  (hp : ∀ x ∈ l, ∀ w', Ext w w' → Calls Tryz.prog f (#[.int .i64 x] ++ caps) w' fun e w'' => e = .returned (.bool (p x)) ∧ Ext w' w'') :
  Calls Tryz.prog 163 #[.slice A n c, .func (.func f) #[] caps] w fun e w' => e = .returned (.bool (l.any p)) ∧ Ext w w' := by
 have HP := Lib.hid hp
 clear hp
 have HI := Lib.hid (idxOf_ge p l 0 (by omega))
 go_enter Tryz.func163, Tryz.ntmps163
 go_wp2_with fail
 refine (indexFunc_spec f caps p l A n c w h hcall HP.out).mono ?_
 rintro e w1 ⟨rfl, hb1⟩
 generalize idxOf p 0 l = v at *
 go_wp2_with fail
 go_ret
 refine ⟨ret_bool ?_, hb1⟩
 rw [Bool.eq_iff_iff, ← HI.out]
 simp
theorem ordcheck1_spec (c : Int) (w : World) : Calls Tryz.prog 164 (#[.int .i64 c] ++ #[]) w fun e w' => e = .returned (.bool (!scalarB c)) ∧ Ext w w' := by
 have HU := Lib.hid (utfLen_eq_zero c)
 go_enter Tryz.func164, Tryz.ntmps164
 go_wp2_with (go_at_call 71; refine (length_spec _ _).mono ?_; rintro e w' ⟨rfl, rfl⟩)
 go_ret
 refine ⟨ret_bool ?_, Ext.refl _⟩
 have := HU.out
 cases hs : scalarB c
 ·simp [this.2 hs]
 ·have h0 : utfLen c ≠ 0 := fun h => by have := this.1 h; rw [hs] at this; cases this
  simp [h0]
set_option maxHeartbeats 800000 in
set_option maxRecDepth 100000 in
theorem ordcheck_spec (t : TV) (T : Tbl) (l : List Int) (A : Option Addr) (n c : Nat) (w : World) (ht : TblS w t T) (h : IntS w ⟨A, n, c⟩ l) :
  Calls Tryz.prog 125 #[t.v, .slice A n c] w fun e w' => e = .returned (.int .i64 (ordErr T l)) ∧ Ext w w' := by
 obtain ⟨hn, _, _⟩ := h.len
 subst hn
 have hba : Ext w (w.alloc (.cells t.v.cells 26)) := (Ext.refl _).alloc_ _
 have HT := Lib.hid (ht.ext_ hba)
 have HV : Hid (ordErr T l = if wfB T = false then 2 else if 4096 < (l.length : Int) then 7 else if l.any (fun c => !scalarB c) then 3 else 0) := rfl
 have HC := Lib.hid (checkNo_zero T)
 clear ht
 go_enter Tryz.func125, Tryz.ntmps125
 go_wp2_with fail
 refine (check_spec t T _ HT.out).mono ?_
 rintro e w1 ⟨rfl, hb1⟩
 have hb01 := hba.trans' hb1
 generalize checkNo T = v at *
 by_cases hv : v = 0
 ·have hw : Hid (wfB T = true) := HC.out.1 hv
  subst hv
  have HS := hid_trans HV (show _ = (if 4096 < (l.length : Int) then 7 else if l.any (fun c => !scalarB c) then 3 else 0) from by rw [hw.out]; simp)
  clear HV HC
  by_cases hl : 4096 < l.length
  ·have HF := hid_trans HS (if_pos (by omega))
   clear HS
   go_wp2_with fail
   go_ret
   exact ⟨ret_int (by rw [HF.out]), hb01⟩
  ·have HS2 := hid_trans HS (if_neg (by omega))
   clear HS
   go_wp2_with fail
   refine (containsFunc_spec 164 #[] (fun c => !scalarB c) l _ _ _ _ (h.ext hb01) Tryz.call164 (fun x _ w' _ => ordcheck1_spec x w')).mono ?_
   rintro e w3 ⟨rfl, hb3⟩
   cases ha : l.any (fun c => !scalarB c)
   ·have HF := hid_trans HS2 (show _ = (0 : Int) from by rw [ha]; rfl)
    clear HS2 ha
    go_wp2_with fail
    go_ret
    exact ⟨ret_int (by rw [HF.out]), hb01.trans' hb3⟩
   ·have HF := hid_trans HS2 (show _ = (3 : Int) from by rw [ha]; rfl)
    clear HS2 ha
    go_wp2_with fail
    go_ret
    exact ⟨ret_int (by rw [HF.out]), hb01.trans' hb3⟩
 ·have hw : wfB T = false := by
   cases h : wfB T with
   | false => rfl
   | true => exact absurd (HC.out.2 h) hv
  have HF := hid_trans HV (if_pos hw)
  have hvb : (v != 0) = true := by rw [bne_iff_ne]; exact hv
  clear HV HC hv hw
  go_wp2_with fail
  go_ret
  exact ⟨ret_int (by rw [HF.out]), hb01⟩
end Go.Proofs.YtbdabjhankgcmaaGreatDoor
namespace Go.Proofs.YtbdabjhankgcmaaGreatDoor
open Go.RowKit
theorem wf_srt {T : Tbl} (h : wfB T = true) : Srt T := by
 simp only [wfB, Bool.and_eq_true] at h
 exact (srt_of (by simp only [h]) (by simp only [h])).1
def insR (T : Tbl) (k x : Int) : List Int → List Int
 | [] => [x]
 | y :: r => if k < clsT T y then y :: insR T k x r else x :: y :: r
def srtGo (T : Tbl) : List Int → List Int → List Int
 | acc, [] => acc.reverse
 | acc, x :: r => srtGo T (if clsT T x = 0 then x :: acc else insR T (clsT T x) x acc) r
def srtT (T : Tbl) (l : List Int) : List Int := srtGo T [] l
theorem insR_len (T : Tbl) (k x : Int) : ∀ l, (insR T k x l).length = l.length + 1
 | [] => rfl
 | y :: r => by
  simp only [insR]
  by_cases h : k < clsT T y
  ·rw [if_pos h]; simp [insR_len T k x r]
  ·rw [if_neg h]; rfl
theorem OwnI.cell {w : World} {base g n c : Nat} {l : List Int} (h : OwnI w base (some ⟨g, 0, none⟩) n c l) (j : Nat) (x : Int) (hx : l[j]? = some x) : w.cell? ⟨g, j, none⟩ = some (.int .i64 x) := by
 obtain ⟨b, hb, hc⟩ := h.cells_ j (.int .i64 x) (by simp [hx])
 injection hb with hb
 injection hb with hb
 subst hb
 exact hc
theorem OwnI.frozen {w : World} {base g n c : Nat} {l : List Int} (h : OwnI w base (some ⟨g, 0, none⟩) n c l) (j : Nat) : w.frozen? ⟨g, j, none⟩ = false := World.ownsRow.frozenAt h j
theorem OwnI.set {w : World} {base g n c : Nat} {l : List Int} (h : OwnI w base (some ⟨g, 0, none⟩) n c l) (j : Nat) (x : Int) : OwnI (w.setCell ⟨g, j, none⟩ (.int .i64 x)) base (some ⟨g, 0, none⟩) n c (l.set j x) := by
 have := (World.ownsRow.stored h j (.int .i64 x)).1
 rw [← List.map_set] at this
 exact this
theorem swap_list (a : List Int) (y x : Int) (r : List Int) : (((a.reverse ++ y :: x :: r).set (a.length + 1) y).set a.length x) = a.reverse ++ x :: y :: r := by
 simp
theorem swap_list' (a : List Int) (y x : Int) (r : List Int) : (((a.reverse ++ y :: x :: r).set a.length x).set (a.length + 1) y) = a.reverse ++ x :: y :: r := by
 simp
set_option maxHeartbeats 3200000 in
set_option maxRecDepth 100000 in
theorem sort_spec (t : TV) (T : Tbl) (l : List Int) (A : Option Addr) (n c : Nat) (w : World) (ht : TblS w t T) (hs : Srt T) (h : IntS w ⟨A, n, c⟩ l) (hlen : l.length ≤ 1099511627776) :
  Calls Tryz.prog 126 #[t.v, .slice A n c] w fun e w' => ∃ B m d, e = .returned (.slice B m d) ∧ IntS w' ⟨B, m, d⟩ (srtT T l) ∧ Ext w w' := by
 obtain ⟨hn, _, _⟩ := h.len
 subst hn
 have hba : Ext w (w.alloc (.cells #[.slice t.s0.a t.s0.n t.s0.c, .slice t.s1.a t.s1.n t.s1.c, .slice t.s2.a t.s2.n t.s2.c, .slice t.s3.a t.s3.n t.s3.c, .slice t.s4.a t.s4.n t.s4.c, .slice t.s5.a t.s5.n t.s5.c, .slice t.s6.a t.s6.n t.s6.c, .slice t.s7.a t.s7.n t.s7.c, .slice t.s8.a t.s8.n t.s8.c, .slice t.s9.a t.s9.n t.s9.c, .slice t.s10.a t.s10.n t.s10.c, .slice t.s11.a t.s11.n t.s11.c] 26)) := (Ext.refl _).alloc_ _
 have HT := Lib.hid (ht.ext_ hba)
 obtain ⟨G, d, w1, hrun, hown, hg, hat⟩ := append_ints (n := 0) (c := 0) (l := []) (Own.nil_ (w.alloc (.cells #[.slice t.s0.a t.s0.n t.s0.c, .slice t.s1.a t.s1.n t.s1.c, .slice t.s2.a t.s2.n t.s2.c, .slice t.s3.a t.s3.n t.s3.c, .slice t.s4.a t.s4.n t.s4.c, .slice t.s5.a t.s5.n t.s5.c, .slice t.s6.a t.s6.n t.s6.c, .slice t.s7.a t.s7.n t.s7.c, .slice t.s8.a t.s8.n t.s8.c, .slice t.s9.a t.s9.n t.s9.c, .slice t.s10.a t.s10.n t.s10.c, .slice t.s11.a t.s11.n t.s11.c] 26)) (w.heap.size + 1) 3 1) (h.ext hba) (by omega) (by simp)
 simp only [Nat.zero_add, List.nil_append] at hrun hown
 have hb1 : Ext (w.alloc (.cells #[.slice t.s0.a t.s0.n t.s0.c, .slice t.s1.a t.s1.n t.s1.c, .slice t.s2.a t.s2.n t.s2.c, .slice t.s3.a t.s3.n t.s3.c, .slice t.s4.a t.s4.n t.s4.c, .slice t.s5.a t.s5.n t.s5.c, .slice t.s6.a t.s6.n t.s6.c, .slice t.s7.a t.s7.n t.s7.c, .slice t.s8.a t.s8.n t.s8.c, .slice t.s9.a t.s9.n t.s9.c, .slice t.s10.a t.s10.n t.s10.c, .slice t.s11.a t.s11.n t.s11.c] 26)) w1 := ext_of_grown (Ext.refl _) hg (by simp [blkOf])
 clear hg hat
 by_cases hl0 : l = []
 ·subst hl0
  have HI := Lib.hid hown.ints
  simp only [List.length_nil] at hrun
  go_enter Tryz.func126, Tryz.ntmps126
  go_wp2_with (at_builtin; refine wpList_run_append rfl _ _ _ rfl _ _ rfl rfl _ _ hrun ?_)
  refine wp_loop_rounds 1 ?_
  rw [rounds_succ]
  go_wp2_with fail
  go_ret
  exact ⟨_, _, _, rfl, HI.out, hba.trans' hb1⟩
 ·obtain ⟨g, hG⟩ := hown.some_ (by have := List.length_pos_iff.2 hl0; omega)
  subst hG
  have hgb : w.heap.size + 1 ≤ g := (hown.lt g rfl).1
  have HO : Hid (srtT T l = srtGo T [] l) := rfl
  clear hl0
  go_enter Tryz.func126, Tryz.ntmps126
  go_wp2_with (at_builtin; refine wpList_run_append rfl _ _ _ rfl _ _ rfl rfl _ _ hrun ?_)
  go_loopw [13] (fun i wr => ∃ (k : Nat) (acc : List Int), k ≤ l.length ∧ i = .int .i64 k ∧ acc.length = k ∧ OwnI wr (w.heap.size + 1) (some ⟨g, 0, none⟩) l.length d (acc.reverse ++ l.drop k) ∧ Hid (srtT T l = srtGo T acc (l.drop k)) ∧
   Ext (w.alloc (.cells #[.slice t.s0.a t.s0.n t.s0.c, .slice t.s1.a t.s1.n t.s1.c, .slice t.s2.a t.s2.n t.s2.c, .slice t.s3.a t.s3.n t.s3.c, .slice t.s4.a t.s4.n t.s4.c, .slice t.s5.a t.s5.n t.s5.c, .slice t.s6.a t.s6.n t.s6.c, .slice t.s7.a t.s7.n t.s7.c, .slice t.s8.a t.s8.n t.s8.c, .slice t.s9.a t.s9.n t.s9.c, .slice t.s10.a t.s10.n t.s10.c, .slice t.s11.a t.s11.n t.s11.c] 26)) wr) (fun i _ => l.length - (intOf i).toNat)
  case atStart => exact ⟨0, [], Nat.zero_le _, rfl, rfl, hown, HO, hb1⟩
  case round =>
   obtain ⟨k, acc, hk, rfl, hacc, hor, HR, hbr⟩ := hrel
   have hb0r := hba.trans' hbr
   have HOR := Lib.hid hor
   have HACC := Lib.hid hacc
   clear hor hacc hown
   by_cases hlt : k < l.length
   ·have HD : Hid (l.drop k = l[k] :: l.drop (k + 1)) := drop_at l k hlt
    generalize l[k] = x at *
    have hcx := HOR.out.cell k x (by rw [HD.out, List.getElem?_append_right (by simp [HACC.out])]; simp [HACC.out])
    have rT : ∀ yy : ExtW wr, ∀ k : Nat, yy.w.cell? ⟨w.heap.size, k, none⟩ = (#[.slice t.s0.a t.s0.n t.s0.c, .slice t.s1.a t.s1.n t.s1.c, .slice t.s2.a t.s2.n t.s2.c, .slice t.s3.a t.s3.n t.s3.c, .slice t.s4.a t.s4.n t.s4.c, .slice t.s5.a t.s5.n t.s5.c, .slice t.s6.a t.s6.n t.s6.c, .slice t.s7.a t.s7.n t.s7.c, .slice t.s8.a t.s8.n t.s8.c, .slice t.s9.a t.s9.n t.s9.c, .slice t.s10.a t.s10.n t.s10.c, .slice t.s11.a t.s11.n t.s11.c] : Array Value)[k]? := fun yy => box_at (hbr.trans' yy.h)
    have rX : ∀ yy : ExtW wr, yy.w.cell? ⟨g, k, none⟩ = some (.int .i64 x) := ext_cell hcx
    have hi0 : (0 : Int) ≤ (k : Int) := Int.natCast_nonneg _
    have hi1 : (k : Int) < (l.length : Int) := by omega
    go_wp2_with fail
    refine region_ext (by kernel_rfl) (by kernel_rfl) ?_
    repeat (go_big_quiet_step ((go_at_call 66; exact quiet_ext (class_spec t T x _ (HT.out.ext_ (hbr.trans' (ExtW.h _))) hs))))
    refine wpQuiet_nil ?_
    rintro _ ⟨xw, rfl⟩
    have hbx := hbr.trans' xw.h
    have HOX := Lib.hid (HOR.out.ext xw.h)
    have HS := hid_trans HR (show _ = srtGo T (if clsT T x = 0 then x :: acc else insR T (clsT T x) x acc) (l.drop (k + 1)) from by rw [HD.out]; rfl)
    have HL2 := hid_trans (show Hid (acc.reverse ++ l.drop k = acc.reverse ++ x :: l.drop (k + 1)) from by show _ = _; rw [HD.out]) rfl
    clear HR HD rT rX hcx
    generalize clsT T x = kx at *
    by_cases hkx : kx = 0
    ·have HF := hid_trans HS (show _ = srtGo T (x :: acc) (l.drop (k + 1)) from by rw [if_pos hkx])
     have hkb : (kx == 0) = true := by rw [beq_iff_eq]; exact hkx
     clear HS hkx
     go_wp2_with fail
     go_roundw
     case rel => exact ⟨k + 1, x :: acc, by omega, by go_num, by simp [HACC.out], by have := HOX.out; rw [HL2.out] at this; rw [List.reverse_cons, List.append_assoc]; exact this, HF, hbx⟩
     case measure => simp [intOf]; omega
    ·have HF := hid_trans HS (show _ = srtGo T (insR T kx x acc) (l.drop (k + 1)) from by rw [if_neg hkx])
     have hkb : (kx == 0) = false := by rw [beq_eq_false_iff_ne]; exact hkx
     clear HS hkx
     obtain ⟨wo, hwo⟩ : ∃ wo : World, wo = xw.w := ⟨_, rfl⟩
     rw [← hwo] at hbx HOX ⊢
     clear hwo
     have HW := Lib.hid HOX.out
     have hbx' := hbx
     have hrb : w.heap.size < wo.heap.size := Nat.lt_of_lt_of_le (by simp) hbx.b.size
     have HA : Hid (srtT T l = srtGo T (([] : List Int).reverse ++ insR T kx x acc) (l.drop (k + 1))) := HF
     have HOW : Hid (OwnI wo (w.heap.size + 1) (some ⟨g, 0, none⟩) l.length d (acc.reverse ++ x :: ([] ++ l.drop (k + 1)))) := Lib.hid (by have := HOX.out; rw [HL2.out] at this; exact this)
     clear HOX HW HF hbx HOR HL2
     go_wp2_with fail
     go_loopw [8] (fun j wi => ∃ (a p : List Int), j = .int .i64 a.length ∧ a.length + p.length = k ∧ OwnI wi (w.heap.size + 1) (some ⟨g, 0, none⟩) l.length d (a.reverse ++ x :: (p ++ l.drop (k + 1))) ∧ Hid (srtT T l = srtGo T (p.reverse ++ insR T kx x a) (l.drop (k + 1))) ∧ Ext (w.alloc (.cells #[.slice t.s0.a t.s0.n t.s0.c, .slice t.s1.a t.s1.n t.s1.c, .slice t.s2.a t.s2.n t.s2.c, .slice t.s3.a t.s3.n t.s3.c, .slice t.s4.a t.s4.n t.s4.c, .slice t.s5.a t.s5.n t.s5.c, .slice t.s6.a t.s6.n t.s6.c, .slice t.s7.a t.s7.n t.s7.c, .slice t.s8.a t.s8.n t.s8.c, .slice t.s9.a t.s9.n t.s9.c, .slice t.s10.a t.s10.n t.s10.c, .slice t.s11.a t.s11.n t.s11.c] 26)) wi) (fun j _ => (intOf j).toNat)
     case atStart => exact ⟨acc, [], by rw [HACC.out], HACC.out, HOW.out, HA, hbx'⟩
     case round =>
      obtain ⟨a, p, rfl, hap, hoi, HI, hbi⟩ := hrel
      have HOI := Lib.hid hoi
      clear hoi HOW HA
      have hbi0 := hba.trans' hbi
      cases a with
      | nil =>
       have hd : decide ((0 : Int) < 0) = false := rfl
       have HF := hid_trans HI (show _ = srtGo T (p.reverse ++ [x]) (l.drop (k + 1)) from rfl)
       clear HI
       go_wp2_with fail
       refine region_ext (by kernel_rfl) (by kernel_rfl) ?_
       repeat (go_big_quiet_step (fail))
       refine wpQuiet_nil ?_
       rintro _ ⟨yw, rfl⟩
       go_wp2_with fail
       go_roundw
       case rel =>
        refine ⟨k + 1, p.reverse ++ [x], by omega, by go_num, by simp at hap ⊢; omega, ?_, HF, hbi.trans' yw.h⟩
        have := HOI.out.ext yw.h
        rw [List.reverse_append, List.reverse_reverse]
        exact this
       case measure => simp [intOf]; omega
      | cons y r =>
       simp only [List.length_cons] at hap ⊢
       have hd : decide ((0 : Int) < ((r.length + 1 : Nat) : Int)) = true := by simp
       have hsub : ((r.length + 1 : Nat) : Int) - 1 = (r.length : Int) := by omega
       have hcy := HOI.out.cell r.length y (by simp)
       have hcx := HOI.out.cell (r.length + 1) x (by simp)
       have rT : ∀ yy : ExtW wr, ∀ k : Nat, yy.w.cell? ⟨w.heap.size, k, none⟩ = (#[.slice t.s0.a t.s0.n t.s0.c, .slice t.s1.a t.s1.n t.s1.c, .slice t.s2.a t.s2.n t.s2.c, .slice t.s3.a t.s3.n t.s3.c, .slice t.s4.a t.s4.n t.s4.c, .slice t.s5.a t.s5.n t.s5.c, .slice t.s6.a t.s6.n t.s6.c, .slice t.s7.a t.s7.n t.s7.c, .slice t.s8.a t.s8.n t.s8.c, .slice t.s9.a t.s9.n t.s9.c, .slice t.s10.a t.s10.n t.s10.c, .slice t.s11.a t.s11.n t.s11.c] : Array Value)[k]? := fun yy => box_at (hbi.trans' yy.h)
       have rX : ∀ yy : ExtW wr, yy.w.cell? ⟨g, r.length, none⟩ = some (.int .i64 y) := ext_cell hcy
       have hi0 : (0 : Int) ≤ (r.length : Int) := Int.natCast_nonneg _
       have hi1 : (r.length : Int) < (l.length : Int) := by omega
       have hi2 : ((r.length + 1 : Nat) : Int) < (l.length : Int) := by omega
       go_wp2_with fail
       refine region_ext (by kernel_rfl) (by kernel_rfl) ?_
       repeat (go_big_quiet_step ((go_at_call 66; exact quiet_ext (class_spec t T y _ (HT.out.ext_ (hbi.trans' (ExtW.h _))) hs))))
       refine wpQuiet_nil ?_
       rintro _ ⟨yw, rfl⟩
       have HOY : Hid (OwnI yw.w (w.heap.size + 1) (some ⟨g, 0, none⟩) l.length d ((y :: r).reverse ++ x :: (p ++ l.drop (k + 1)))) := Lib.hid (HOI.out.ext yw.h)
       have hbY := hbi.trans' yw.h
       clear hcy hcx rT rX hbi hbi0 HOI
       generalize hdk : decide (kx < clsT T y) = bv
       cases bv
       case true =>
        have hky : kx < clsT T y := of_decide_eq_true hdk
        have HF := hid_trans HI (show _ = srtGo T ((y :: p).reverse ++ insR T kx x r) (l.drop (k + 1)) from by simp [insR, hky])
        clear hky HI hdk
        have r0 := HOY.out.cell r.length y (by simp)
        have r1 := HOY.out.cell (r.length + 1) x (by simp)
        have f0 := HOY.out.frozen r.length
        have f1 := HOY.out.frozen (r.length + 1)
        have hi3 : (0 : Int) ≤ ((r.length + 1 : Nat) : Int) := Int.natCast_nonneg _
        obtain ⟨wo2, hwo2⟩ : ∃ wo2 : World, wo2 = yw.w := ⟨_, rfl⟩
        rw [← hwo2] at HOY hbY r0 r1 f0 f1 ⊢
        clear hwo2
        go_wp2_with fail
        go_region
        go_wp2_with fail
        go_roundw
        case rel =>
         refine ⟨r, y :: p, by go_num, by simp at hap ⊢; omega, ?_, HF, ?_⟩
         ·have h2 := (HOY.out.set (r.length + 1) y).set r.length x
          have h3 := swap_list r y x (p ++ l.drop (k + 1))
          show OwnI _ _ _ _ _ (r.reverse ++ x :: y :: (p ++ l.drop (k + 1)))
          rw [← h3]
          rw [List.reverse_cons, List.append_assoc] at h2
          exact Own.ext h2 (Ext.refl _).drew_
         ·exact ((hbY.setCell_ (by simp; exact hgb) _).setCell_ (by simp; exact hgb) _).drew_
        case measure => simp [intOf]
       case false =>
        have hky : ¬ kx < clsT T y := of_decide_eq_false hdk
        have HF := hid_trans HI (show _ = srtGo T (p.reverse ++ x :: y :: r) (l.drop (k + 1)) from by simp [insR, hky])
        clear hky HI hdk
        go_wp2_with fail
        go_roundw
        case rel =>
         refine ⟨k + 1, p.reverse ++ x :: y :: r, by omega, by go_num, by simp at hap ⊢; omega, ?_, HF, hbY⟩
         have := HOY.out
         rw [show (p.reverse ++ x :: y :: r).reverse ++ l.drop (k + 1) = (y :: r).reverse ++ x :: (p ++ l.drop (k + 1)) from by simp]
         exact this
        case measure => simp [intOf]; omega
   ·have HF := hid_trans HR (show _ = acc.reverse from by rw [drop_all l k (by omega)]; rfl)
    have HO2 := HOR.out
    rw [drop_all l k (by omega), List.append_nil] at HO2
    have HI := Lib.hid HO2.ints
    clear HR HO2
    go_wp2_with fail
    go_ret
    exact ⟨_, _, _, rfl, by rw [HF.out]; exact HI.out, hb0r⟩
set_option maxHeartbeats 1600000 in
set_option maxRecDepth 100000 in
theorem order_spec (t : TV) (T : Tbl) (l : List Int) (A : Option Addr) (n c : Nat) (w : World) (ht : TblS w t T) (h : IntS w ⟨A, n, c⟩ l) :
  Calls Tryz.prog 75 #[t.v, .slice A n c] w fun e w' => ∃ v, e = .returned (.tuple #[v, .int .i64 (ordErr T l)]) ∧ Ext w w' ∧
   (ordErr T l = 0 → ∃ B m d, v = .slice B m d ∧ IntS w' ⟨B, m, d⟩ (srtT T l)) := by
 have hba : Ext w (w.alloc (.cells t.v.cells 26)) := (Ext.refl _).alloc_ _
 have HT := Lib.hid ht
 have HI := Lib.hid h
 go_enter Tryz.func75, Tryz.ntmps75
 go_wp2_with fail
 refine (ordcheck_spec t T l A n c _ (HT.out.ext_ hba) (HI.out.ext hba)).mono ?_
 rintro e w1 ⟨rfl, hb1⟩
 have hb01 := hba.trans' hb1
 by_cases hz : ordErr T l = 0
 ·have hzb : (ordErr T l == 0) = true := by rw [beq_iff_eq]; exact hz
  obtain ⟨hwf, hlen⟩ : wfB T = true ∧ l.length ≤ 4096 := by
   unfold ordErr at hz
   cases hw : wfB T
   ·rw [hw] at hz; simp at hz
   ·rw [hw] at hz
    simp only [Bool.true_eq_false, if_false] at hz
    by_cases h5 : 4096 < (l.length : Int)
    ·rw [if_pos h5] at hz; omega
    ·exact ⟨rfl, by omega⟩
  have HZ := Lib.hid hz
  have rT : ∀ k : Nat, w1.cell? ⟨w.heap.size, k, none⟩ = t.v.cells[k]? := box_at hb1
  clear hz
  go_wp2_with fail
  refine (sort_spec t T l A n c _ (HT.out.ext_ hb01) (wf_srt hwf) (HI.out.ext hb01) (by omega)).mono ?_
  rintro e w2 ⟨B, m, d, rfl, hi, hb2⟩
  have HI2 := Lib.hid hi
  clear hi
  go_wp2_with fail
  go_ret2
  exact ⟨_, by rw [HZ.out]; rfl, hb01.trans' hb2, fun _ => ⟨B, m, d, rfl, HI2.out⟩⟩
 ·have hzb : (ordErr T l == 0) = false := by rw [beq_eq_false_iff_ne]; exact hz
  have HZ := Lib.hid hz
  clear hz
  go_wp2_with fail
  go_ret2
  exact ⟨_, rfl, hb01, fun h => absurd h HZ.out⟩
end Go.Proofs.YtbdabjhankgcmaaGreatDoor
