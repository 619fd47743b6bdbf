/- The law ValidLetters. (By program: hy_gen.py.) -/
import Derived.Test.YtbdabjhankgcmaaDoorHv
import Derived.Test.YtbdabjhankgcmaaDoorZn
import Derived.Test.YtbdabjhankgcmaaDoorBy
import Derived.Test.YtbdabjhankgcmaaDoorKd
import Derived.Deep.LoopGhost
namespace Go.Proofs.YtbdabjhankgcmaaDoor
open Go.RowKit
def leL : List Int := [97, 98, 99, 100, 101, 102, 103, 104, 105, 106, 107, 108, 109, 110, 111, 112, 113, 114, 115, 116, 117, 118, 119, 120, 121, 122, 48, 49, 50, 51, 52, 53, 54, 55, 56, 57]
def lek (x : Int) : Int := leL.getD (x % 36).toNat 0
theorem lek_ok (x : Int) : letB (lek x) = true := by
 have h0 := Int.emod_nonneg x (show (36 : Int) ≠ 0 by decide)
 have h1 := Int.emod_lt_of_pos x (show (0 : Int) < 36 by decide)
 have h2 : ∀ c ∈ leL, letB c = true := by decide
 unfold lek
 rw [getD_lt _ _ _ (by simp [leL]; omega)]
 exact h2 _ (List.getElem_mem _)
theorem own_one' {w : World} {H : Nat} (hH : w.heap.size = H) (a : Int) : OwnI (w.alloc (.cells #[.int .i64 a] 3)) w.heap.size (some ⟨H, 0, none⟩) 1 1 [a] := by
 subst hH
 exact World.ownsRow_lit w #[.int .i64 a] 1 (Nat.le_refl _) (by simp [maxLen]) rfl
def LeLoop (wb : World) (mm : List Int) (gh : Nat) (s6 s7 : Value) (wx : World) : Prop :=
 ∃ (k : Nat) (A : Option Addr) (c : Nat), k + gh = mm.length ∧ s7 = .int .i64 k ∧ s6 = .slice A (1 + k) c ∧ OwnI wx wb.heap.size A (1 + k) c (97 :: (mm.take k).map lek) ∧ Ext wb wx
set_option maxHeartbeats 12800000 in
set_option maxRecDepth 100000 in
theorem vletters_spec (l m : List Int) (A : Option Addr) (n c : Nat) (A2 : Option Addr) (n2 c2 : Nat) (w : World) (h : IntS w ⟨A, n, c⟩ l) (h2 : ByteS w ⟨A2, n2, c2⟩ m) (hg : Glob w) :
  Calls Tryd.prog 4 #[.slice A n c, .slice A2 n2 c2] w fun e w' => e = .returned (.bool true) ∧ Ext w w' := by
 obtain ⟨hn2, hn3, hn4⟩ := h2.len
 subst hn2
 have HG := Lib.hid hg
 have HM0 := Lib.hid h2
 have HL := Lib.hid h
 obtain ⟨mm, hmm⟩ : ∃ mm, m.take 40 = mm := ⟨_, rfl⟩
 have hml : mm.length ≤ 40 ∧ mm.length ≤ m.length ∧ (40 ≤ mm.length ∨ mm.length = m.length) := by rw [← hmm]; simp; omega
 have HMM : Hid (∀ (k : Nat) (hk : k < mm.length) (hk2 : k < m.length), m[k] = mm[k]) := Lib.hid (fun k hk hk2 => by subst hmm; simp)
 obtain ⟨hml1, hml2, hml3⟩ := hml
 clear hg h h2 hmm
 go_enter Tryd.func4, Tryd.ntmps4
 go_wp2_with fail
 refine Calls.mono (tables_spec l A n c w HL.out HG.out) ?_
 rintro e w1 ⟨t, rfl, ht, hb1⟩
 have hx1 : Ext w1 (w1.alloc (.cells t.v.cells 30)) := (Ext.refl _).alloc_ _
 obtain ⟨w2, hw2⟩ : ∃ w2, w2 = (w1.alloc (.cells #[.slice t.s0.a t.s0.n t.s0.c, .slice t.s1.a t.s1.n t.s1.c, .slice t.s2.a t.s2.n t.s2.c, .slice t.s3.a t.s3.n t.s3.c, .slice t.s4.a t.s4.n t.s4.c, .slice t.s5.a t.s5.n t.s5.c, .slice t.s6.a t.s6.n t.s6.c, .slice t.s7.a t.s7.n t.s7.c, .slice t.s8.a t.s8.n t.s8.c, .slice t.s9.a t.s9.n t.s9.c, .slice t.s10.a t.s10.n t.s10.c, .slice t.s11.a t.s11.n t.s11.c] 30)) := ⟨_, rfl⟩
 have HRT : Hid (∀ w', Ext w2 w' → ∀ k : Nat, w'.cell? ⟨w1.heap.size, k, none⟩ = t.v.cells[k]?) := Lib.hid (by rw [hw2]; exact fun w' hw' => box_at hw')
 have HT : Hid (∀ w', Ext w2 w' → TblS w' t (madeT l)) := Lib.hid (by rw [hw2]; exact fun w' hw' => (ht.ext_ hx1).ext_ hw')
 have HB : Hid (Ext w w2) := Lib.hid (by rw [hw2]; exact hb1.trans' hx1)
 have HM := Lib.hid (HM0.out.ext HB.out)
 have HZ2 : Hid (w2.heap.size = w1.heap.size + 1) := Lib.hid (by rw [hw2]; simp)
 have HLAW := Lib.hid (let_law l (mm.map lek) (fun c hc => by obtain ⟨x, _, rfl⟩ := List.mem_map.1 hc; exact lek_ok x) (by simp; omega))
 generalize madeT l = T at *
 clear ht hb1 hx1 HM0
 go_wp2_with fail
 rw [← hw2]
 clear hw2
 go_loopg [6, 7] mm.length (fun gh s6 s7 wx => LeLoop w2 mm gh s6 s7 wx)
 case atStart => exact ⟨0, _, 1, by omega, rfl, rfl, own_one' HZ2.out 97, (Ext.refl _).alloc_ _⟩
 case round =>
  obtain ⟨k, A4, c4, hkg, rfl, rfl, hown, hbx⟩ := hrel
  have HO := Lib.hid hown
  have HBX := Lib.hid hbx
  clear hown hbx
  have hk0 : (0 : Int) ≤ (k : Int) := Int.natCast_nonneg _
  by_cases hlt : k < mm.length
  ·obtain ⟨gk', rfl⟩ : ∃ g', gk = g' + 1 := ⟨gk - 1, by omega⟩
   have hlm : k < m.length := by omega
   have HTK : Hid (97 :: (mm.take (k + 1)).map lek = (97 :: (mm.take k).map lek) ++ [lek m[k]]) := Lib.hid (by rw [HMM.out k hlt hlm, List.take_succ_eq_append_getElem hlt, List.map_append]; rfl)
   obtain ⟨b, o, ha, hc0, hx0, hx1⟩ := (HM.out.ext HBX.out).at_ hlm
   subst ha
   generalize m[k] = x at *
   have hk1 : (k : Int) < (m.length : Int) := by omega
   have d1 : decide (k < m.length) = true := by rw [decide_eq_true_eq]; omega
   have d2 : decide (k < 40) = true := by rw [decide_eq_true_eq]; omega
   have d3 : decide ((k : Int) < 40) = true := by rw [decide_eq_true_eq]; omega
   have hr0 := Int.emod_nonneg x (show (36 : Int) ≠ 0 by decide)
   have hr1 := Int.emod_lt_of_pos x (show (0 : Int) < 36 by decide)
   obtain ⟨v, hv⟩ : ∃ v : Nat, x % 36 = v := ⟨(x % 36).toNat, by omega⟩
   have hv36 : v < 36 := by omega
   have htm : x.tmod 36 = (v : Int) := by rw [← hv]; exact Int.tmod_eq_emod_of_nonneg hx0
   obtain ⟨y, hy⟩ : ∃ y, leL.getD v 0 = y := ⟨_, rfl⟩
   have HJ : Hid (lek x = y) := Lib.hid (by rw [lek, hv, Int.toNat_natCast, hy])
   have hx4 : Ext wr (wr.alloc (.cells #[.int .i64 y] 3)) := (Ext.refl _).alloc_ _
   obtain ⟨A5, c5, w5, hrun5, hown5, hgr5, hat5⟩ := append_ints (Own.ext HO.out hx4) (one_int wr y) (by omega) (by have h' := HBX.out.b.size; simp; omega)
   have HB5 : Hid (Ext w2 w5) := Lib.hid (ext_of_grown (HBX.out.trans' hx4) hgr5 (fun k hk => (Own.lt HO.out k hk).1))
   have HO5 : Hid (OwnI w5 w2.heap.size A5 (1 + k + 1) c5 (97 :: (mm.take (k + 1)).map lek)) := Lib.hid (by rw [HTK.out, HJ.out]; exact hown5)
   clear hown5 hgr5 hat5 hx4 hv hr0 hr1 HTK HJ
   match v, hv36 with
   | 0, _ =>
    obtain rfl : y = 97 := hy.symm
    have htm' : x.tmod 36 = 0 := htm
    have hc : ∀ h, ((⟨#[97, 98, 99, 100, 101, 102, 103, 104, 105, 106, 107, 108, 109, 110, 111, 112, 113, 114, 115, 116, 117, 118, 119, 120, 121, 122, 48, 49, 50, 51, 52, 53, 54, 55, 56, 57]⟩ : ByteArray)[0]'h).toNat = 97 := fun _ => rfl
    clear htm hy
    go_wp2_with (at_builtin; refine wpList_run_append rfl _ _ _ rfl _ _ rfl rfl _ _ hrun5 ?_)
    go_roundg gk'
    case measure => omega
    case rel => exact ⟨k + 1, A5, c5, by omega, by go_num, by rw [Nat.add_assoc], by rw [← Nat.add_assoc]; exact HO5.out, HB5.out⟩
   | 1, _ =>
    obtain rfl : y = 98 := hy.symm
    have htm' : x.tmod 36 = 1 := htm
    have hc : ∀ h, ((⟨#[97, 98, 99, 100, 101, 102, 103, 104, 105, 106, 107, 108, 109, 110, 111, 112, 113, 114, 115, 116, 117, 118, 119, 120, 121, 122, 48, 49, 50, 51, 52, 53, 54, 55, 56, 57]⟩ : ByteArray)[1]'h).toNat = 98 := fun _ => rfl
    clear htm hy
    go_wp2_with (at_builtin; refine wpList_run_append rfl _ _ _ rfl _ _ rfl rfl _ _ hrun5 ?_)
    go_roundg gk'
    case measure => omega
    case rel => exact ⟨k + 1, A5, c5, by omega, by go_num, by rw [Nat.add_assoc], by rw [← Nat.add_assoc]; exact HO5.out, HB5.out⟩
   | 2, _ =>
    obtain rfl : y = 99 := hy.symm
    have htm' : x.tmod 36 = 2 := htm
    have hc : ∀ h, ((⟨#[97, 98, 99, 100, 101, 102, 103, 104, 105, 106, 107, 108, 109, 110, 111, 112, 113, 114, 115, 116, 117, 118, 119, 120, 121, 122, 48, 49, 50, 51, 52, 53, 54, 55, 56, 57]⟩ : ByteArray)[2]'h).toNat = 99 := fun _ => rfl
    clear htm hy
    go_wp2_with (at_builtin; refine wpList_run_append rfl _ _ _ rfl _ _ rfl rfl _ _ hrun5 ?_)
    go_roundg gk'
    case measure => omega
    case rel => exact ⟨k + 1, A5, c5, by omega, by go_num, by rw [Nat.add_assoc], by rw [← Nat.add_assoc]; exact HO5.out, HB5.out⟩
   | 3, _ =>
    obtain rfl : y = 100 := hy.symm
    have htm' : x.tmod 36 = 3 := htm
    have hc : ∀ h, ((⟨#[97, 98, 99, 100, 101, 102, 103, 104, 105, 106, 107, 108, 109, 110, 111, 112, 113, 114, 115, 116, 117, 118, 119, 120, 121, 122, 48, 49, 50, 51, 52, 53, 54, 55, 56, 57]⟩ : ByteArray)[3]'h).toNat = 100 := fun _ => rfl
    clear htm hy
    go_wp2_with (at_builtin; refine wpList_run_append rfl _ _ _ rfl _ _ rfl rfl _ _ hrun5 ?_)
    go_roundg gk'
    case measure => omega
    case rel => exact ⟨k + 1, A5, c5, by omega, by go_num, by rw [Nat.add_assoc], by rw [← Nat.add_assoc]; exact HO5.out, HB5.out⟩
   | 4, _ =>
    obtain rfl : y = 101 := hy.symm
    have htm' : x.tmod 36 = 4 := htm
    have hc : ∀ h, ((⟨#[97, 98, 99, 100, 101, 102, 103, 104, 105, 106, 107, 108, 109, 110, 111, 112, 113, 114, 115, 116, 117, 118, 119, 120, 121, 122, 48, 49, 50, 51, 52, 53, 54, 55, 56, 57]⟩ : ByteArray)[4]'h).toNat = 101 := fun _ => rfl
    clear htm hy
    go_wp2_with (at_builtin; refine wpList_run_append rfl _ _ _ rfl _ _ rfl rfl _ _ hrun5 ?_)
    go_roundg gk'
    case measure => omega
    case rel => exact ⟨k + 1, A5, c5, by omega, by go_num, by rw [Nat.add_assoc], by rw [← Nat.add_assoc]; exact HO5.out, HB5.out⟩
   | 5, _ =>
    obtain rfl : y = 102 := hy.symm
    have htm' : x.tmod 36 = 5 := htm
    have hc : ∀ h, ((⟨#[97, 98, 99, 100, 101, 102, 103, 104, 105, 106, 107, 108, 109, 110, 111, 112, 113, 114, 115, 116, 117, 118, 119, 120, 121, 122, 48, 49, 50, 51, 52, 53, 54, 55, 56, 57]⟩ : ByteArray)[5]'h).toNat = 102 := fun _ => rfl
    clear htm hy
    go_wp2_with (at_builtin; refine wpList_run_append rfl _ _ _ rfl _ _ rfl rfl _ _ hrun5 ?_)
    go_roundg gk'
    case measure => omega
    case rel => exact ⟨k + 1, A5, c5, by omega, by go_num, by rw [Nat.add_assoc], by rw [← Nat.add_assoc]; exact HO5.out, HB5.out⟩
   | 6, _ =>
    obtain rfl : y = 103 := hy.symm
    have htm' : x.tmod 36 = 6 := htm
    have hc : ∀ h, ((⟨#[97, 98, 99, 100, 101, 102, 103, 104, 105, 106, 107, 108, 109, 110, 111, 112, 113, 114, 115, 116, 117, 118, 119, 120, 121, 122, 48, 49, 50, 51, 52, 53, 54, 55, 56, 57]⟩ : ByteArray)[6]'h).toNat = 103 := fun _ => rfl
    clear htm hy
    go_wp2_with (at_builtin; refine wpList_run_append rfl _ _ _ rfl _ _ rfl rfl _ _ hrun5 ?_)
    go_roundg gk'
    case measure => omega
    case rel => exact ⟨k + 1, A5, c5, by omega, by go_num, by rw [Nat.add_assoc], by rw [← Nat.add_assoc]; exact HO5.out, HB5.out⟩
   | 7, _ =>
    obtain rfl : y = 104 := hy.symm
    have htm' : x.tmod 36 = 7 := htm
    have hc : ∀ h, ((⟨#[97, 98, 99, 100, 101, 102, 103, 104, 105, 106, 107, 108, 109, 110, 111, 112, 113, 114, 115, 116, 117, 118, 119, 120, 121, 122, 48, 49, 50, 51, 52, 53, 54, 55, 56, 57]⟩ : ByteArray)[7]'h).toNat = 104 := fun _ => rfl
    clear htm hy
    go_wp2_with (at_builtin; refine wpList_run_append rfl _ _ _ rfl _ _ rfl rfl _ _ hrun5 ?_)
    go_roundg gk'
    case measure => omega
    case rel => exact ⟨k + 1, A5, c5, by omega, by go_num, by rw [Nat.add_assoc], by rw [← Nat.add_assoc]; exact HO5.out, HB5.out⟩
   | 8, _ =>
    obtain rfl : y = 105 := hy.symm
    have htm' : x.tmod 36 = 8 := htm
    have hc : ∀ h, ((⟨#[97, 98, 99, 100, 101, 102, 103, 104, 105, 106, 107, 108, 109, 110, 111, 112, 113, 114, 115, 116, 117, 118, 119, 120, 121, 122, 48, 49, 50, 51, 52, 53, 54, 55, 56, 57]⟩ : ByteArray)[8]'h).toNat = 105 := fun _ => rfl
    clear htm hy
    go_wp2_with (at_builtin; refine wpList_run_append rfl _ _ _ rfl _ _ rfl rfl _ _ hrun5 ?_)
    go_roundg gk'
    case measure => omega
    case rel => exact ⟨k + 1, A5, c5, by omega, by go_num, by rw [Nat.add_assoc], by rw [← Nat.add_assoc]; exact HO5.out, HB5.out⟩
   | 9, _ =>
    obtain rfl : y = 106 := hy.symm
    have htm' : x.tmod 36 = 9 := htm
    have hc : ∀ h, ((⟨#[97, 98, 99, 100, 101, 102, 103, 104, 105, 106, 107, 108, 109, 110, 111, 112, 113, 114, 115, 116, 117, 118, 119, 120, 121, 122, 48, 49, 50, 51, 52, 53, 54, 55, 56, 57]⟩ : ByteArray)[9]'h).toNat = 106 := fun _ => rfl
    clear htm hy
    go_wp2_with (at_builtin; refine wpList_run_append rfl _ _ _ rfl _ _ rfl rfl _ _ hrun5 ?_)
    go_roundg gk'
    case measure => omega
    case rel => exact ⟨k + 1, A5, c5, by omega, by go_num, by rw [Nat.add_assoc], by rw [← Nat.add_assoc]; exact HO5.out, HB5.out⟩
   | 10, _ =>
    obtain rfl : y = 107 := hy.symm
    have htm' : x.tmod 36 = 10 := htm
    have hc : ∀ h, ((⟨#[97, 98, 99, 100, 101, 102, 103, 104, 105, 106, 107, 108, 109, 110, 111, 112, 113, 114, 115, 116, 117, 118, 119, 120, 121, 122, 48, 49, 50, 51, 52, 53, 54, 55, 56, 57]⟩ : ByteArray)[10]'h).toNat = 107 := fun _ => rfl
    clear htm hy
    go_wp2_with (at_builtin; refine wpList_run_append rfl _ _ _ rfl _ _ rfl rfl _ _ hrun5 ?_)
    go_roundg gk'
    case measure => omega
    case rel => exact ⟨k + 1, A5, c5, by omega, by go_num, by rw [Nat.add_assoc], by rw [← Nat.add_assoc]; exact HO5.out, HB5.out⟩
   | 11, _ =>
    obtain rfl : y = 108 := hy.symm
    have htm' : x.tmod 36 = 11 := htm
    have hc : ∀ h, ((⟨#[97, 98, 99, 100, 101, 102, 103, 104, 105, 106, 107, 108, 109, 110, 111, 112, 113, 114, 115, 116, 117, 118, 119, 120, 121, 122, 48, 49, 50, 51, 52, 53, 54, 55, 56, 57]⟩ : ByteArray)[11]'h).toNat = 108 := fun _ => rfl
    clear htm hy
    go_wp2_with (at_builtin; refine wpList_run_append rfl _ _ _ rfl _ _ rfl rfl _ _ hrun5 ?_)
    go_roundg gk'
    case measure => omega
    case rel => exact ⟨k + 1, A5, c5, by omega, by go_num, by rw [Nat.add_assoc], by rw [← Nat.add_assoc]; exact HO5.out, HB5.out⟩
   | 12, _ =>
    obtain rfl : y = 109 := hy.symm
    have htm' : x.tmod 36 = 12 := htm
    have hc : ∀ h, ((⟨#[97, 98, 99, 100, 101, 102, 103, 104, 105, 106, 107, 108, 109, 110, 111, 112, 113, 114, 115, 116, 117, 118, 119, 120, 121, 122, 48, 49, 50, 51, 52, 53, 54, 55, 56, 57]⟩ : ByteArray)[12]'h).toNat = 109 := fun _ => rfl
    clear htm hy
    go_wp2_with (at_builtin; refine wpList_run_append rfl _ _ _ rfl _ _ rfl rfl _ _ hrun5 ?_)
    go_roundg gk'
    case measure => omega
    case rel => exact ⟨k + 1, A5, c5, by omega, by go_num, by rw [Nat.add_assoc], by rw [← Nat.add_assoc]; exact HO5.out, HB5.out⟩
   | 13, _ =>
    obtain rfl : y = 110 := hy.symm
    have htm' : x.tmod 36 = 13 := htm
    have hc : ∀ h, ((⟨#[97, 98, 99, 100, 101, 102, 103, 104, 105, 106, 107, 108, 109, 110, 111, 112, 113, 114, 115, 116, 117, 118, 119, 120, 121, 122, 48, 49, 50, 51, 52, 53, 54, 55, 56, 57]⟩ : ByteArray)[13]'h).toNat = 110 := fun _ => rfl
    clear htm hy
    go_wp2_with (at_builtin; refine wpList_run_append rfl _ _ _ rfl _ _ rfl rfl _ _ hrun5 ?_)
    go_roundg gk'
    case measure => omega
    case rel => exact ⟨k + 1, A5, c5, by omega, by go_num, by rw [Nat.add_assoc], by rw [← Nat.add_assoc]; exact HO5.out, HB5.out⟩
   | 14, _ =>
    obtain rfl : y = 111 := hy.symm
    have htm' : x.tmod 36 = 14 := htm
    have hc : ∀ h, ((⟨#[97, 98, 99, 100, 101, 102, 103, 104, 105, 106, 107, 108, 109, 110, 111, 112, 113, 114, 115, 116, 117, 118, 119, 120, 121, 122, 48, 49, 50, 51, 52, 53, 54, 55, 56, 57]⟩ : ByteArray)[14]'h).toNat = 111 := fun _ => rfl
    clear htm hy
    go_wp2_with (at_builtin; refine wpList_run_append rfl _ _ _ rfl _ _ rfl rfl _ _ hrun5 ?_)
    go_roundg gk'
    case measure => omega
    case rel => exact ⟨k + 1, A5, c5, by omega, by go_num, by rw [Nat.add_assoc], by rw [← Nat.add_assoc]; exact HO5.out, HB5.out⟩
   | 15, _ =>
    obtain rfl : y = 112 := hy.symm
    have htm' : x.tmod 36 = 15 := htm
    have hc : ∀ h, ((⟨#[97, 98, 99, 100, 101, 102, 103, 104, 105, 106, 107, 108, 109, 110, 111, 112, 113, 114, 115, 116, 117, 118, 119, 120, 121, 122, 48, 49, 50, 51, 52, 53, 54, 55, 56, 57]⟩ : ByteArray)[15]'h).toNat = 112 := fun _ => rfl
    clear htm hy
    go_wp2_with (at_builtin; refine wpList_run_append rfl _ _ _ rfl _ _ rfl rfl _ _ hrun5 ?_)
    go_roundg gk'
    case measure => omega
    case rel => exact ⟨k + 1, A5, c5, by omega, by go_num, by rw [Nat.add_assoc], by rw [← Nat.add_assoc]; exact HO5.out, HB5.out⟩
   | 16, _ =>
    obtain rfl : y = 113 := hy.symm
    have htm' : x.tmod 36 = 16 := htm
    have hc : ∀ h, ((⟨#[97, 98, 99, 100, 101, 102, 103, 104, 105, 106, 107, 108, 109, 110, 111, 112, 113, 114, 115, 116, 117, 118, 119, 120, 121, 122, 48, 49, 50, 51, 52, 53, 54, 55, 56, 57]⟩ : ByteArray)[16]'h).toNat = 113 := fun _ => rfl
    clear htm hy
    go_wp2_with (at_builtin; refine wpList_run_append rfl _ _ _ rfl _ _ rfl rfl _ _ hrun5 ?_)
    go_roundg gk'
    case measure => omega
    case rel => exact ⟨k + 1, A5, c5, by omega, by go_num, by rw [Nat.add_assoc], by rw [← Nat.add_assoc]; exact HO5.out, HB5.out⟩
   | 17, _ =>
    obtain rfl : y = 114 := hy.symm
    have htm' : x.tmod 36 = 17 := htm
    have hc : ∀ h, ((⟨#[97, 98, 99, 100, 101, 102, 103, 104, 105, 106, 107, 108, 109, 110, 111, 112, 113, 114, 115, 116, 117, 118, 119, 120, 121, 122, 48, 49, 50, 51, 52, 53, 54, 55, 56, 57]⟩ : ByteArray)[17]'h).toNat = 114 := fun _ => rfl
    clear htm hy
    go_wp2_with (at_builtin; refine wpList_run_append rfl _ _ _ rfl _ _ rfl rfl _ _ hrun5 ?_)
    go_roundg gk'
    case measure => omega
    case rel => exact ⟨k + 1, A5, c5, by omega, by go_num, by rw [Nat.add_assoc], by rw [← Nat.add_assoc]; exact HO5.out, HB5.out⟩
   | 18, _ =>
    obtain rfl : y = 115 := hy.symm
    have htm' : x.tmod 36 = 18 := htm
    have hc : ∀ h, ((⟨#[97, 98, 99, 100, 101, 102, 103, 104, 105, 106, 107, 108, 109, 110, 111, 112, 113, 114, 115, 116, 117, 118, 119, 120, 121, 122, 48, 49, 50, 51, 52, 53, 54, 55, 56, 57]⟩ : ByteArray)[18]'h).toNat = 115 := fun _ => rfl
    clear htm hy
    go_wp2_with (at_builtin; refine wpList_run_append rfl _ _ _ rfl _ _ rfl rfl _ _ hrun5 ?_)
    go_roundg gk'
    case measure => omega
    case rel => exact ⟨k + 1, A5, c5, by omega, by go_num, by rw [Nat.add_assoc], by rw [← Nat.add_assoc]; exact HO5.out, HB5.out⟩
   | 19, _ =>
    obtain rfl : y = 116 := hy.symm
    have htm' : x.tmod 36 = 19 := htm
    have hc : ∀ h, ((⟨#[97, 98, 99, 100, 101, 102, 103, 104, 105, 106, 107, 108, 109, 110, 111, 112, 113, 114, 115, 116, 117, 118, 119, 120, 121, 122, 48, 49, 50, 51, 52, 53, 54, 55, 56, 57]⟩ : ByteArray)[19]'h).toNat = 116 := fun _ => rfl
    clear htm hy
    go_wp2_with (at_builtin; refine wpList_run_append rfl _ _ _ rfl _ _ rfl rfl _ _ hrun5 ?_)
    go_roundg gk'
    case measure => omega
    case rel => exact ⟨k + 1, A5, c5, by omega, by go_num, by rw [Nat.add_assoc], by rw [← Nat.add_assoc]; exact HO5.out, HB5.out⟩
   | 20, _ =>
    obtain rfl : y = 117 := hy.symm
    have htm' : x.tmod 36 = 20 := htm
    have hc : ∀ h, ((⟨#[97, 98, 99, 100, 101, 102, 103, 104, 105, 106, 107, 108, 109, 110, 111, 112, 113, 114, 115, 116, 117, 118, 119, 120, 121, 122, 48, 49, 50, 51, 52, 53, 54, 55, 56, 57]⟩ : ByteArray)[20]'h).toNat = 117 := fun _ => rfl
    clear htm hy
    go_wp2_with (at_builtin; refine wpList_run_append rfl _ _ _ rfl _ _ rfl rfl _ _ hrun5 ?_)
    go_roundg gk'
    case measure => omega
    case rel => exact ⟨k + 1, A5, c5, by omega, by go_num, by rw [Nat.add_assoc], by rw [← Nat.add_assoc]; exact HO5.out, HB5.out⟩
   | 21, _ =>
    obtain rfl : y = 118 := hy.symm
    have htm' : x.tmod 36 = 21 := htm
    have hc : ∀ h, ((⟨#[97, 98, 99, 100, 101, 102, 103, 104, 105, 106, 107, 108, 109, 110, 111, 112, 113, 114, 115, 116, 117, 118, 119, 120, 121, 122, 48, 49, 50, 51, 52, 53, 54, 55, 56, 57]⟩ : ByteArray)[21]'h).toNat = 118 := fun _ => rfl
    clear htm hy
    go_wp2_with (at_builtin; refine wpList_run_append rfl _ _ _ rfl _ _ rfl rfl _ _ hrun5 ?_)
    go_roundg gk'
    case measure => omega
    case rel => exact ⟨k + 1, A5, c5, by omega, by go_num, by rw [Nat.add_assoc], by rw [← Nat.add_assoc]; exact HO5.out, HB5.out⟩
   | 22, _ =>
    obtain rfl : y = 119 := hy.symm
    have htm' : x.tmod 36 = 22 := htm
    have hc : ∀ h, ((⟨#[97, 98, 99, 100, 101, 102, 103, 104, 105, 106, 107, 108, 109, 110, 111, 112, 113, 114, 115, 116, 117, 118, 119, 120, 121, 122, 48, 49, 50, 51, 52, 53, 54, 55, 56, 57]⟩ : ByteArray)[22]'h).toNat = 119 := fun _ => rfl
    clear htm hy
    go_wp2_with (at_builtin; refine wpList_run_append rfl _ _ _ rfl _ _ rfl rfl _ _ hrun5 ?_)
    go_roundg gk'
    case measure => omega
    case rel => exact ⟨k + 1, A5, c5, by omega, by go_num, by rw [Nat.add_assoc], by rw [← Nat.add_assoc]; exact HO5.out, HB5.out⟩
   | 23, _ =>
    obtain rfl : y = 120 := hy.symm
    have htm' : x.tmod 36 = 23 := htm
    have hc : ∀ h, ((⟨#[97, 98, 99, 100, 101, 102, 103, 104, 105, 106, 107, 108, 109, 110, 111, 112, 113, 114, 115, 116, 117, 118, 119, 120, 121, 122, 48, 49, 50, 51, 52, 53, 54, 55, 56, 57]⟩ : ByteArray)[23]'h).toNat = 120 := fun _ => rfl
    clear htm hy
    go_wp2_with (at_builtin; refine wpList_run_append rfl _ _ _ rfl _ _ rfl rfl _ _ hrun5 ?_)
    go_roundg gk'
    case measure => omega
    case rel => exact ⟨k + 1, A5, c5, by omega, by go_num, by rw [Nat.add_assoc], by rw [← Nat.add_assoc]; exact HO5.out, HB5.out⟩
   | 24, _ =>
    obtain rfl : y = 121 := hy.symm
    have htm' : x.tmod 36 = 24 := htm
    have hc : ∀ h, ((⟨#[97, 98, 99, 100, 101, 102, 103, 104, 105, 106, 107, 108, 109, 110, 111, 112, 113, 114, 115, 116, 117, 118, 119, 120, 121, 122, 48, 49, 50, 51, 52, 53, 54, 55, 56, 57]⟩ : ByteArray)[24]'h).toNat = 121 := fun _ => rfl
    clear htm hy
    go_wp2_with (at_builtin; refine wpList_run_append rfl _ _ _ rfl _ _ rfl rfl _ _ hrun5 ?_)
    go_roundg gk'
    case measure => omega
    case rel => exact ⟨k + 1, A5, c5, by omega, by go_num, by rw [Nat.add_assoc], by rw [← Nat.add_assoc]; exact HO5.out, HB5.out⟩
   | 25, _ =>
    obtain rfl : y = 122 := hy.symm
    have htm' : x.tmod 36 = 25 := htm
    have hc : ∀ h, ((⟨#[97, 98, 99, 100, 101, 102, 103, 104, 105, 106, 107, 108, 109, 110, 111, 112, 113, 114, 115, 116, 117, 118, 119, 120, 121, 122, 48, 49, 50, 51, 52, 53, 54, 55, 56, 57]⟩ : ByteArray)[25]'h).toNat = 122 := fun _ => rfl
    clear htm hy
    go_wp2_with (at_builtin; refine wpList_run_append rfl _ _ _ rfl _ _ rfl rfl _ _ hrun5 ?_)
    go_roundg gk'
    case measure => omega
    case rel => exact ⟨k + 1, A5, c5, by omega, by go_num, by rw [Nat.add_assoc], by rw [← Nat.add_assoc]; exact HO5.out, HB5.out⟩
   | 26, _ =>
    obtain rfl : y = 48 := hy.symm
    have htm' : x.tmod 36 = 26 := htm
    have hc : ∀ h, ((⟨#[97, 98, 99, 100, 101, 102, 103, 104, 105, 106, 107, 108, 109, 110, 111, 112, 113, 114, 115, 116, 117, 118, 119, 120, 121, 122, 48, 49, 50, 51, 52, 53, 54, 55, 56, 57]⟩ : ByteArray)[26]'h).toNat = 48 := fun _ => rfl
    clear htm hy
    go_wp2_with (at_builtin; refine wpList_run_append rfl _ _ _ rfl _ _ rfl rfl _ _ hrun5 ?_)
    go_roundg gk'
    case measure => omega
    case rel => exact ⟨k + 1, A5, c5, by omega, by go_num, by rw [Nat.add_assoc], by rw [← Nat.add_assoc]; exact HO5.out, HB5.out⟩
   | 27, _ =>
    obtain rfl : y = 49 := hy.symm
    have htm' : x.tmod 36 = 27 := htm
    have hc : ∀ h, ((⟨#[97, 98, 99, 100, 101, 102, 103, 104, 105, 106, 107, 108, 109, 110, 111, 112, 113, 114, 115, 116, 117, 118, 119, 120, 121, 122, 48, 49, 50, 51, 52, 53, 54, 55, 56, 57]⟩ : ByteArray)[27]'h).toNat = 49 := fun _ => rfl
    clear htm hy
    go_wp2_with (at_builtin; refine wpList_run_append rfl _ _ _ rfl _ _ rfl rfl _ _ hrun5 ?_)
    go_roundg gk'
    case measure => omega
    case rel => exact ⟨k + 1, A5, c5, by omega, by go_num, by rw [Nat.add_assoc], by rw [← Nat.add_assoc]; exact HO5.out, HB5.out⟩
   | 28, _ =>
    obtain rfl : y = 50 := hy.symm
    have htm' : x.tmod 36 = 28 := htm
    have hc : ∀ h, ((⟨#[97, 98, 99, 100, 101, 102, 103, 104, 105, 106, 107, 108, 109, 110, 111, 112, 113, 114, 115, 116, 117, 118, 119, 120, 121, 122, 48, 49, 50, 51, 52, 53, 54, 55, 56, 57]⟩ : ByteArray)[28]'h).toNat = 50 := fun _ => rfl
    clear htm hy
    go_wp2_with (at_builtin; refine wpList_run_append rfl _ _ _ rfl _ _ rfl rfl _ _ hrun5 ?_)
    go_roundg gk'
    case measure => omega
    case rel => exact ⟨k + 1, A5, c5, by omega, by go_num, by rw [Nat.add_assoc], by rw [← Nat.add_assoc]; exact HO5.out, HB5.out⟩
   | 29, _ =>
    obtain rfl : y = 51 := hy.symm
    have htm' : x.tmod 36 = 29 := htm
    have hc : ∀ h, ((⟨#[97, 98, 99, 100, 101, 102, 103, 104, 105, 106, 107, 108, 109, 110, 111, 112, 113, 114, 115, 116, 117, 118, 119, 120, 121, 122, 48, 49, 50, 51, 52, 53, 54, 55, 56, 57]⟩ : ByteArray)[29]'h).toNat = 51 := fun _ => rfl
    clear htm hy
    go_wp2_with (at_builtin; refine wpList_run_append rfl _ _ _ rfl _ _ rfl rfl _ _ hrun5 ?_)
    go_roundg gk'
    case measure => omega
    case rel => exact ⟨k + 1, A5, c5, by omega, by go_num, by rw [Nat.add_assoc], by rw [← Nat.add_assoc]; exact HO5.out, HB5.out⟩
   | 30, _ =>
    obtain rfl : y = 52 := hy.symm
    have htm' : x.tmod 36 = 30 := htm
    have hc : ∀ h, ((⟨#[97, 98, 99, 100, 101, 102, 103, 104, 105, 106, 107, 108, 109, 110, 111, 112, 113, 114, 115, 116, 117, 118, 119, 120, 121, 122, 48, 49, 50, 51, 52, 53, 54, 55, 56, 57]⟩ : ByteArray)[30]'h).toNat = 52 := fun _ => rfl
    clear htm hy
    go_wp2_with (at_builtin; refine wpList_run_append rfl _ _ _ rfl _ _ rfl rfl _ _ hrun5 ?_)
    go_roundg gk'
    case measure => omega
    case rel => exact ⟨k + 1, A5, c5, by omega, by go_num, by rw [Nat.add_assoc], by rw [← Nat.add_assoc]; exact HO5.out, HB5.out⟩
   | 31, _ =>
    obtain rfl : y = 53 := hy.symm
    have htm' : x.tmod 36 = 31 := htm
    have hc : ∀ h, ((⟨#[97, 98, 99, 100, 101, 102, 103, 104, 105, 106, 107, 108, 109, 110, 111, 112, 113, 114, 115, 116, 117, 118, 119, 120, 121, 122, 48, 49, 50, 51, 52, 53, 54, 55, 56, 57]⟩ : ByteArray)[31]'h).toNat = 53 := fun _ => rfl
    clear htm hy
    go_wp2_with (at_builtin; refine wpList_run_append rfl _ _ _ rfl _ _ rfl rfl _ _ hrun5 ?_)
    go_roundg gk'
    case measure => omega
    case rel => exact ⟨k + 1, A5, c5, by omega, by go_num, by rw [Nat.add_assoc], by rw [← Nat.add_assoc]; exact HO5.out, HB5.out⟩
   | 32, _ =>
    obtain rfl : y = 54 := hy.symm
    have htm' : x.tmod 36 = 32 := htm
    have hc : ∀ h, ((⟨#[97, 98, 99, 100, 101, 102, 103, 104, 105, 106, 107, 108, 109, 110, 111, 112, 113, 114, 115, 116, 117, 118, 119, 120, 121, 122, 48, 49, 50, 51, 52, 53, 54, 55, 56, 57]⟩ : ByteArray)[32]'h).toNat = 54 := fun _ => rfl
    clear htm hy
    go_wp2_with (at_builtin; refine wpList_run_append rfl _ _ _ rfl _ _ rfl rfl _ _ hrun5 ?_)
    go_roundg gk'
    case measure => omega
    case rel => exact ⟨k + 1, A5, c5, by omega, by go_num, by rw [Nat.add_assoc], by rw [← Nat.add_assoc]; exact HO5.out, HB5.out⟩
   | 33, _ =>
    obtain rfl : y = 55 := hy.symm
    have htm' : x.tmod 36 = 33 := htm
    have hc : ∀ h, ((⟨#[97, 98, 99, 100, 101, 102, 103, 104, 105, 106, 107, 108, 109, 110, 111, 112, 113, 114, 115, 116, 117, 118, 119, 120, 121, 122, 48, 49, 50, 51, 52, 53, 54, 55, 56, 57]⟩ : ByteArray)[33]'h).toNat = 55 := fun _ => rfl
    clear htm hy
    go_wp2_with (at_builtin; refine wpList_run_append rfl _ _ _ rfl _ _ rfl rfl _ _ hrun5 ?_)
    go_roundg gk'
    case measure => omega
    case rel => exact ⟨k + 1, A5, c5, by omega, by go_num, by rw [Nat.add_assoc], by rw [← Nat.add_assoc]; exact HO5.out, HB5.out⟩
   | 34, _ =>
    obtain rfl : y = 56 := hy.symm
    have htm' : x.tmod 36 = 34 := htm
    have hc : ∀ h, ((⟨#[97, 98, 99, 100, 101, 102, 103, 104, 105, 106, 107, 108, 109, 110, 111, 112, 113, 114, 115, 116, 117, 118, 119, 120, 121, 122, 48, 49, 50, 51, 52, 53, 54, 55, 56, 57]⟩ : ByteArray)[34]'h).toNat = 56 := fun _ => rfl
    clear htm hy
    go_wp2_with (at_builtin; refine wpList_run_append rfl _ _ _ rfl _ _ rfl rfl _ _ hrun5 ?_)
    go_roundg gk'
    case measure => omega
    case rel => exact ⟨k + 1, A5, c5, by omega, by go_num, by rw [Nat.add_assoc], by rw [← Nat.add_assoc]; exact HO5.out, HB5.out⟩
   | 35, _ =>
    obtain rfl : y = 57 := hy.symm
    have htm' : x.tmod 36 = 35 := htm
    have hc : ∀ h, ((⟨#[97, 98, 99, 100, 101, 102, 103, 104, 105, 106, 107, 108, 109, 110, 111, 112, 113, 114, 115, 116, 117, 118, 119, 120, 121, 122, 48, 49, 50, 51, 52, 53, 54, 55, 56, 57]⟩ : ByteArray)[35]'h).toNat = 57 := fun _ => rfl
    clear htm hy
    go_wp2_with (at_builtin; refine wpList_run_append rfl _ _ _ rfl _ _ rfl rfl _ _ hrun5 ?_)
    go_roundg gk'
    case measure => omega
    case rel => exact ⟨k + 1, A5, c5, by omega, by go_num, by rw [Nat.add_assoc], by rw [← Nat.add_assoc]; exact HO5.out, HB5.out⟩
   | n + 36, h => exact absurd h (by omega)
  ·have hke : k = mm.length := by omega
   subst hke
   have hdd : decide (mm.length < m.length) = true ∧ decide (mm.length < 40) = false ∧ decide ((mm.length : Int) < 40) = false ∨ decide (mm.length < m.length) = false := by
    simp only [decide_eq_true_eq, decide_eq_false_iff_not]
    omega
   have HIA : Hid (IntS wr ⟨A4, 1 + mm.length, c4⟩ (97 :: mm.map lek)) := Lib.hid (by have h := OwnI.ints HO.out; rwa [List.take_length] at h)
   generalize mm.map lek = LA at *
   clear hlt HO HMM HM hml2 hml3 hkg
   rcases hdd with ⟨d1, d2, d3⟩ | d1
   all_goals
    go_wp2_with fail
    refine (vawake_spec _ (HG.out.ext (HB.out.trans' HBX.out))).mono ?_
    rintro e w6 ⟨rfl, hb6⟩
    have HB6 := Lib.hid (HBX.out.trans' hb6)
    have rT6 := HRT.out w6 HB6.out
    have HI6 := Lib.hid (HIA.out.ext hb6)
    clear hb6
    go_wp2_with fail
    refine (vcheck_spec T t (97 :: LA) A4 _ c4 w6 (HT.out _ HB6.out) HI6.out).mono ?_
    rintro e w7 ⟨rfl, hb7⟩
    rw [HLAW.out]
    have hx := HB.out.trans' (HB6.out.trans' hb7)
    clear hb7 rT6
    go_wp2_with fail
    go_ret
    exact ⟨rfl, hx⟩
end Go.Proofs.YtbdabjhankgcmaaDoor
