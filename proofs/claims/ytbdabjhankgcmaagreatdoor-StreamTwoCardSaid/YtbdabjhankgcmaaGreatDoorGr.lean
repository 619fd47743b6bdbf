/- Walks of the reference: full, rule 6. Walk of the reference: rule 6. -/
import Derived.Test.YtbdabjhankgcmaaGreatDoorVp
import Derived.Test.YtbdabjhankgcmaaGreatDoorVa
import Derived.Test.YtbdabjhankgcmaaGreatDoorGa
import Derived.Test.YtbdabjhankgcmaaGreatDoorGd
import Derived.Deep.LoopGhost
namespace Go.Proofs.YtbdabjhankgcmaaGreatDoor
open Go.RowKit
def FullLoop (wb : World) (D : List Mp) (v : List Int × Bool) (gh : Nat) (s6 s7 : Value) (wx : World) : Prop :=
 ∃ (r : Nat) (L : List Int) (A : Option Addr) (c : Nat), r + gh = 257 ∧ s7 = .int .i64 r ∧ s6 = .slice A L.length c ∧ IntS wx ⟨A, L.length, c⟩ L ∧ Ext wb wx ∧ Hid (v = fullGo D gh L) ∧ L.length ≤ 18
def FullLoop2 (wb : World) (D : List Mp) (L : List Int) (gh : Nat) (s8 s9 s21 : Value) (wx : World) : Prop :=
 ∃ (k : Nat) (A : Option Addr) (c : Nat) (acc : List Int) (more : Bool), k + gh = L.length ∧ s21 = .int .i64 k ∧ s8 = .slice A acc.length c ∧ s9 = .bool more ∧ OwnI wx wb.heap.size A acc.length c acc ∧ Ext wb wx ∧ Hid (acc = exp1 D (L.take k)) ∧ Hid (more = !allLeaf D (L.take k)) ∧ acc.length ≤ 18 * k
def FullPost (w : World) (v : List Int × Bool) (e : Ending) (w' : World) : Prop := ∃ A n c, e = .returned (.tuple #[.slice A n c, .bool v.2]) ∧ IntS w' ⟨A, n, c⟩ v.1 ∧ Ext w w'
theorem exp1_take {D : List Mp} {L : List Int} {k : Nat} (h : k < L.length) : exp1 D (L.take (k + 1)) = exp1 D (L.take k) ++ exOne D L[k] := by
 rw [List.take_succ_eq_append_getElem h, exp1, List.flatMap_append]; simp [exp1]
theorem leaf_take {D : List Mp} {L : List Int} {k : Nat} (h : k < L.length) : allLeaf D (L.take (k + 1)) = (allLeaf D (L.take k) && (mpFind D L[k]).isEmpty) := by
 rw [List.take_succ_eq_append_getElem h, allLeaf, List.all_append]; simp [allLeaf]
set_option maxHeartbeats 3200000 in
set_option maxRecDepth 100000 in
theorem rfull_spec (t : TV) (T : Tbl) (c0 : Int) (w : World) (ht : TblS w t T) (hto : ∀ x, (mpFind T.dec x).length ≤ 18) :
  Calls Tryz.prog 100 #[t.v, .int .i64 c0] w (FullPost w (fullT T.dec c0)) := by
 have HTO := Lib.hid hto
 have HD : Hid (MapS w ⟨t.s9.a, t.s9.n, t.s9.c⟩ T.dec) := Lib.hid ht.dec
 have hba := tw_ext w t
 have hba2 : Ext w (((w.alloc (.cells #[.slice t.s0.a t.s0.n t.s0.c, .slice t.s1.a t.s1.n t.s1.c, .slice t.s2.a t.s2.n t.s2.c, .slice t.s3.a t.s3.n t.s3.c, .slice t.s4.a t.s4.n t.s4.c, .slice t.s5.a t.s5.n t.s5.c, .slice t.s6.a t.s6.n t.s6.c, .slice t.s7.a t.s7.n t.s7.c, .slice t.s8.a t.s8.n t.s8.c, .slice t.s9.a t.s9.n t.s9.c, .slice t.s10.a t.s10.n t.s10.c, .slice t.s11.a t.s11.n t.s11.c] 26))).alloc (.cells #[.int .i64 c0] 3)) := hba.alloc_ _
 have HB : Hid (fullT T.dec c0 = fullGo T.dec 257 [c0]) := rfl
 generalize fullT T.dec c0 = V at *
 generalize T.dec = D at *
 have HBA2 := Lib.hid hba2
 clear ht hto
 go_enter Tryz.func100, Tryz.ntmps100
 go_wp2_with fail
 go_loopg [6, 7] 257 (fun gh s6 s7 wx => FullLoop (w.alloc (.cells #[.slice t.s0.a t.s0.n t.s0.c, .slice t.s1.a t.s1.n t.s1.c, .slice t.s2.a t.s2.n t.s2.c, .slice t.s3.a t.s3.n t.s3.c, .slice t.s4.a t.s4.n t.s4.c, .slice t.s5.a t.s5.n t.s5.c, .slice t.s6.a t.s6.n t.s6.c, .slice t.s7.a t.s7.n t.s7.c, .slice t.s8.a t.s8.n t.s8.c, .slice t.s9.a t.s9.n t.s9.c, .slice t.s10.a t.s10.n t.s10.c, .slice t.s11.a t.s11.n t.s11.c] 26)) D V gh s6 s7 wx)
 case atStart => exact ⟨0, [c0], some ⟨w.heap.size + 1, 0, none⟩, 1, rfl, rfl, rfl, by have h := one_int ((w.alloc (.cells #[.slice t.s0.a t.s0.n t.s0.c, .slice t.s1.a t.s1.n t.s1.c, .slice t.s2.a t.s2.n t.s2.c, .slice t.s3.a t.s3.n t.s3.c, .slice t.s4.a t.s4.n t.s4.c, .slice t.s5.a t.s5.n t.s5.c, .slice t.s6.a t.s6.n t.s6.c, .slice t.s7.a t.s7.n t.s7.c, .slice t.s8.a t.s8.n t.s8.c, .slice t.s9.a t.s9.n t.s9.c, .slice t.s10.a t.s10.n t.s10.c, .slice t.s11.a t.s11.n t.s11.c] 26))) c0; simpa using h, (Ext.refl _).alloc_ _, HB, by simp⟩
 case round =>
  obtain ⟨r, L, A, cL, hrg, rfl, rfl, hi, hbx, HR, hL⟩ := hrel
  have HI := Lib.hid hi
  have HBX := Lib.hid hbx
  have hb0 := hba.trans' hbx
  have HB0 := Lib.hid hb0
  have hz : w.heap.size < wr.heap.size := by have h' := hbx.b.size; simp at h'; omega
  clear hi hbx hb0 HB
  rcases Nat.eq_zero_or_pos gk with h0 | hpos
  ·subst h0
   have HF : Hid (V = ([], false)) := Lib.hid (by rw [HR.out]; rfl)
   have hd : decide ((r : Int) ≤ 256) = false := by rw [decide_eq_false_iff_not]; omega
   have hd2 : decide (r ≤ 256) = false := by rw [decide_eq_false_iff_not]; omega
   clear HR
   go_wp2_with fail
   go_ret2
   exact ⟨none, 0, 0, by rw [HF.out]; rfl, by rw [HF.out]; exact IntS.nil_ _, HB0.out⟩
  ·obtain ⟨gk', rfl⟩ : ∃ g', gk = g' + 1 := ⟨gk - 1, by omega⟩
   have hd : decide ((r : Int) ≤ 256) = true := by rw [decide_eq_true_eq]; omega
   have hd2 : decide (r ≤ 256) = true := by rw [decide_eq_true_eq]; omega
   have HS := hid_trans HR (show _ = if allLeaf D L = true then (L, true) else if 18 < (exp1 D L).length then ([], false) else fullGo D gk' (exp1 D L) from rfl)
   clear HR
   obtain ⟨wo, rfl⟩ : ∃ wo : World, wo = wr := ⟨_, rfl⟩
   go_wp2_with fail
   go_loopg [8, 9, 21] L.length (fun gh s8 s9 s21 wx => FullLoop2 wo D L gh s8 s9 s21 wx)
   case atStart => exact ⟨0, none, 0, [], false, by omega, rfl, rfl, rfl, Own.nil_ _ _ _ _, Ext.refl _, Lib.hid rfl, Lib.hid rfl, by simp⟩
   case round =>
    obtain ⟨k, A8, c8, acc, more, hkg, rfl, rfl, rfl, hown, hbi, HA, HM, hal⟩ := hrel
    have HO := Lib.hid hown
    have HBI := Lib.hid hbi
    have rT : ∀ k : Nat, wr.cell? ⟨w.heap.size, k, none⟩ = t.v.cells[k]? := box_at (HBX.out.trans' hbi)
    clear hown hbi
    by_cases hlt : k < L.length
    ·obtain ⟨gq', rfl⟩ : ∃ g', gk = g' + 1 := ⟨gk - 1, by omega⟩
     obtain ⟨b, o, ha, hc⟩ := (HI.out.ext HBI.out).at_ hlt
     subst ha
     have HA1 : Hid (exp1 D (L.take (k + 1)) = acc ++ exOne D (L[k]'hlt)) := Lib.hid (by rw [exp1_take hlt, ← HA.out])
     have HM1 : Hid ((!allLeaf D (L.take (k + 1))) = (more || !(mpFind D (L[k]'hlt)).isEmpty)) := Lib.hid (by rw [leaf_take hlt, HM.out, Bool.not_and])
     generalize L[k] = x at *
     have hk0 : (0 : Int) ≤ (k : Int) := Int.natCast_nonneg _
     have hk1 : (k : Int) < (L.length : Int) := by omega
     have hfl := HTO.out x
     clear HA HM
     obtain ⟨wi, rfl⟩ : ∃ wi : World, wi = wr := ⟨_, rfl⟩
     go_wp2_with fail
     refine (rfind_spec D t.s9.a t.s9.n t.s9.c x _ (HD.out.ext (HB0.out.trans' HBI.out))).mono ?_
     rintro e w3 ⟨za, zn, zc, rfl, hz3, hb3⟩
     have hzn := hz3.len.1
     have HO3 : Hid (OwnI w3 wo.heap.size A8 acc.length c8 acc) := Lib.hid (Own.ext HO.out hb3)
     have HB3 := Lib.hid (HBI.out.trans' hb3)
     have HZ3 := Lib.hid hz3
     clear hz3 hb3 rT
     by_cases he : (mpFind D x).isEmpty = true
     ·have hlz : (mpFind D x).length = 0 := by rw [List.isEmpty_iff.1 he]; rfl
      have hzn0 : zn = 0 := by rw [hzn, hlz]
      subst hzn0
      clear hzn
      have HA2 : Hid (acc ++ [x] = exp1 D (L.take (k + 1))) := Lib.hid (by rw [HA1.out, exOne, if_pos he])
      have HM2 : Hid (more = !allLeaf D (L.take (k + 1))) := Lib.hid (by rw [HM1.out, he]; simp)
      have hx4 : Ext w3 (w3.alloc (.cells #[.int .i64 x] 3)) := (Ext.refl _).alloc_ _
      obtain ⟨A5, c5, w5, hrun, hown5, hgr5, hat5⟩ := append_ints (Own.ext HO3.out hx4) (one_int w3 x) (by omega) (by have h' := HB3.out.b.size; simp; omega)
      have HO5 := Lib.hid hown5
      have HB5 : Hid (Ext wo w5) := Lib.hid (ext_of_grown (HB3.out.trans' hx4) hgr5 (fun k hk => (Own.lt HO3.out k hk).1))
      clear hown5 hgr5 hat5 hx4 HA1 HM1 he hlz
      go_wp2_with (at_builtin; refine wpList_run_append rfl _ _ _ rfl _ _ rfl rfl _ _ hrun ?_)
      go_roundg gq'
      case measure => omega
      case rel => exact ⟨k + 1, A5, c5, acc ++ [x], more, by omega, by go_num, by simp, rfl, by simpa using HO5.out, HB5.out, HA2, HM2, by simp; omega⟩
     ·have hlz : 0 < (mpFind D x).length := by
       cases hm : mpFind D x with
       | nil => rw [hm] at he; simp at he
       | cons y r => simp
      have HA2 : Hid (acc ++ mpFind D x = exp1 D (L.take (k + 1))) := Lib.hid (by rw [HA1.out, exOne, if_neg he])
      have HM2 : Hid (true = !allLeaf D (L.take (k + 1))) := Lib.hid (by rw [HM1.out]; simp only [Bool.not_eq_true] at he; rw [he]; simp)
      obtain ⟨A5, c5, w5, hrun, hown5, hgr5, hat5⟩ := append_ints HO3.out HZ3.out (by omega) HB3.out.b.size
      have HO5 := Lib.hid hown5
      have HB5 : Hid (Ext wo w5) := Lib.hid (ext_of_grown HB3.out hgr5 (fun k hk => (Own.lt HO3.out k hk).1))
      have hzp : decide (0 < zn) = true := by rw [decide_eq_true_eq]; omega
      have hzp2 : decide ((0 : Int) < (zn : Int)) = true := by rw [decide_eq_true_eq]; omega
      have HZN := Lib.hid hzn
      have hln : (acc ++ mpFind D x).length = acc.length + zn := by rw [List.length_append, hzn]
      have HLN := Lib.hid hln
      clear hown5 hgr5 hat5 HA1 HM1 he hzn hln
      go_wp2_with (at_builtin; refine wpList_run_append rfl _ _ _ rfl _ _ rfl rfl _ _ hrun ?_)
      go_roundg gq'
      case measure => omega
      case rel => exact ⟨k + 1, A5, c5, acc ++ mpFind D x, true, by omega, by go_num, by rw [HLN.out], rfl, by rw [HLN.out]; exact HO5.out, HB5.out, HA2, HM2, by rw [HLN.out, HZN.out]; omega⟩
    ·have HAF : Hid (acc = exp1 D L) := Lib.hid (by rw [HA.out, List.take_of_length_le (by omega)])
     have HMF : Hid (more = !allLeaf D L) := Lib.hid (by rw [HM.out, List.take_of_length_le (by omega)])
     have hgk : gk = 0 := by omega
     clear HA HM
     cases more
     ·have HF : Hid (V = (L, true)) := Lib.hid (by
       have h1 : allLeaf D L = true := by have := HMF.out; cases h : allLeaf D L <;> rw [h] at this <;> simp at this ⊢
       rw [HS.out, if_pos h1])
      clear HS hgk
      go_wp2_with fail
      go_ret2
      exact ⟨A, _, cL, by rw [HF.out]; rfl, by rw [HF.out]; exact HI.out.ext HBI.out, HB0.out.trans' HBI.out⟩
     ·have HS2 : Hid (V = if 18 < acc.length then ([], false) else fullGo D gk' acc) := Lib.hid (by
       have h1 : ¬(allLeaf D L = true) := by have := HMF.out; cases h : allLeaf D L <;> rw [h] at this <;> simp at this ⊢
       rw [HS.out, if_neg h1, HAF.out])
      clear HS HMF hgk
      by_cases h18 : 18 < acc.length
      ·have HF : Hid (V = ([], false)) := Lib.hid (by rw [HS2.out, if_pos h18])
       clear HS2
       go_wp2_with fail
       go_ret2
       exact ⟨none, 0, 0, by rw [HF.out]; rfl, by rw [HF.out]; exact IntS.nil_ _, HB0.out.trans' HBI.out⟩
      ·have HF : Hid (V = fullGo D gk' acc) := Lib.hid (by rw [HS2.out, if_neg h18])
       have h18' : acc.length ≤ 18 := by omega
       clear HS2
       go_wp2_with fail
       go_roundg gk'
       case measure => omega
       case rel => exact ⟨r + 1, acc, A8, c8, by omega, by go_num, rfl, OwnI.ints HO.out, HBX.out.trans' HBI.out, HF, h18'⟩
end Go.Proofs.YtbdabjhankgcmaaGreatDoor
namespace Go.Proofs.YtbdabjhankgcmaaGreatDoor
open Go.RowKit
set_option maxHeartbeats 1600000 in
set_option maxRecDepth 100000 in
theorem rfinite_spec (t : TV) (T : Tbl) (w : World) (ht : TblS w t T) (hlen : T.dec.length ≤ 256) (hto : ∀ x, (mpFind T.dec x).length ≤ 18) :
  Calls Tryz.prog 96 #[t.v] w fun e w' => e = .returned (.bool (decomposedB T)) ∧ Ext w w' := by
 have HB : Hid (decomposedB T = (decL T.dec && sizesL T.dec (T.dec.length + 1) T.dec)) := rfl
 obtain ⟨s0, s1, s2, s3, s4, s5, s6, s7, s8, ⟨A, n, cc⟩, s10, s11⟩ := t
 have hx : MapS w ⟨A, n, cc⟩ T.dec := ht.dec
 obtain ⟨Q, hQ⟩ : ∃ q : List Mp → Bool, q = fun L => L.all fun m => (fullT T.dec m.lo).2 := ⟨_, rfl⟩
 have HB : Hid (decomposedB T = (decL T.dec && Q T.dec)) := Lib.hid (by rw [HB.out, sizes_full hlen, hQ])
 have HTO := Lib.hid hto
 have HQ := Lib.hid hQ
 have hQl : decomposedB T = (decL T.dec && Q T.dec) := HB.out
 clear hQ hQl
 obtain ⟨l, hl0⟩ : ∃ l, l = T.dec := ⟨_, rfl⟩
 rw [← hl0] at HB hx
 have HL := Lib.hid hl0
 clear hl0
 obtain ⟨hl, _, _⟩ := hx.len
 subst hl
 have hba : Ext w (w.alloc (.cells #[.slice s0.a s0.n s0.c, .slice s1.a s1.n s1.c, .slice s2.a s2.n s2.c, .slice s3.a s3.n s3.c, .slice s4.a s4.n s4.c, .slice s5.a s5.n s5.c, .slice s6.a s6.n s6.c, .slice s7.a s7.n s7.c, .slice s8.a s8.n s8.c, .slice A l.length cc, .slice s10.a s10.n s10.c, .slice s11.a s11.n s11.c] 26)) := (Ext.refl _).alloc_ _
 go_enter Tryz.func96, Tryz.ntmps96
 go_wp2_with fail
 go_loopw [14] (fun i wr => ∃ (k : Nat), k ≤ l.length ∧ i = .int .i64 k ∧ Hid (decomposedB T = (decL (l.drop k) && Q l)) ∧
  Ext (w.alloc (.cells #[.slice s0.a s0.n s0.c, .slice s1.a s1.n s1.c, .slice s2.a s2.n s2.c, .slice s3.a s3.n s3.c, .slice s4.a s4.n s4.c, .slice s5.a s5.n s5.c, .slice s6.a s6.n s6.c, .slice s7.a s7.n s7.c, .slice s8.a s8.n s8.c, .slice A l.length cc, .slice s10.a s10.n s10.c, .slice s11.a s11.n s11.c] 26)) wr) (fun i _ => l.length - (intOf i).toNat)
 case atStart => exact ⟨0, Nat.zero_le _, rfl, HB, Ext.refl _⟩
 case round =>
  obtain ⟨k, hk, rfl, HR, hbr⟩ := hrel
  have hb0r := hba.trans' hbr
  by_cases hlt : k < l.length
  ·obtain ⟨b, o, za, zn, zc, ha, h0, h1, h2⟩ := (hx.ext hb0r).at_ hlt
   subst ha
   have HD : Hid (l.drop k = l[k] :: l.drop (k + 1)) := drop_at l k hlt
   generalize l[k] = x at *
   obtain ⟨xl, xt⟩ := x
   simp only at h0 h1 h2
   obtain ⟨hzn, _, _⟩ := h2.len
   subst hzn
   have hba2 : Ext wr (wr.alloc (.cells #[.int .i64 xl, .slice za xt.length zc] 74)) := (Ext.refl _).alloc_ _
   have h22 := h2.ext hba2
   have HS := hid_trans HR (show _ = (!decide (2 < (xt.length : Int)) && (decTo xt && (decL (l.drop (k + 1)) && Q l))) from by rw [HD.out]; simp [decL, Bool.and_assoc])
   clear HR HD HB h2
   by_cases hlen : 2 < xt.length
   ·have HF := hid_trans HS (show _ = false from by simp; intros; omega)
    clear HS
    go_wp2
    go_ret
    exact ⟨ret_bool HF.out.symm, hb0r.alloc_ _⟩
   ·have HS2 := hid_trans HS (show _ = (decTo xt && (decL (l.drop (k + 1)) && Q l)) from by simp; intros; omega)
    clear HS
    obtain ⟨wo, rfl⟩ : ∃ wo : World, wo = wr := ⟨_, rfl⟩
    go_wp2_with fail
    go_loopw [25] (fun i wi => ∃ (j : Nat), j ≤ xt.length ∧ i = .int .i64 j ∧ Hid (decomposedB T = (decTo (xt.drop j) && (decL (l.drop (k + 1)) && Q l))) ∧ wo.alloc (.cells #[.int .i64 xl, .slice za xt.length zc] 74) = wi) (fun i _ => xt.length - (intOf i).toNat)
    case atStart => exact ⟨0, Nat.zero_le _, rfl, HS2, rfl⟩
    case round =>
     obtain ⟨j, hj, rfl, HI, rfl⟩ := hrel
     by_cases hltj : j < xt.length
     ·obtain ⟨b5, o5, ha, g5⟩ := h22.at_ hltj
      subst ha
      have HJ : Hid (xt.drop j = xt[j] :: xt.drop (j + 1)) := drop_at xt j hltj
      generalize xt[j] = z at *
      have HZ := hid_trans HI (show _ = (!((z == 46) || syllB z || jamoB z) && (decTo (xt.drop (j + 1)) && (decL (l.drop (k + 1)) && Q l))) from by rw [HJ.out]; simp only [decTo, Bool.and_assoc]; rfl)
      clear HI HJ HS2
      cases hz : (z == 46)
      ·go_wp2_with (first
        | (go_at_call 87; refine (rsyll_spec _ _).mono ?_; rintro e w' ⟨rfl, rfl⟩; cases hz1 : syllB z)
        | (go_at_call 88; refine (rjamo_spec _ _).mono ?_; rintro e w' ⟨rfl, rfl⟩; cases hz2 : jamoB z))
       all_goals first
        | (go_ret; exact ⟨ret_bool (by rw [HZ.out]; simp [*]), hb0r.alloc_ _⟩)
        | (go_roundw
           case rel => exact ⟨j + 1, by omega, by go_num, hid_trans HZ (by simp [*]), by trivial⟩
           case measure => simp [intOf]; omega)
      ·have HF := hid_trans HZ (show _ = false from by rw [hz]; rfl)
       clear HZ
       go_wp2_with fail
       go_ret
       exact ⟨ret_bool HF.out.symm, hb0r.alloc_ _⟩
     ·have HF := hid_trans HI (show _ = (decL (l.drop (k + 1)) && Q l) from by rw [drop_all xt j (by omega)]; rfl)
      clear HI HS2
      go_wp2_with fail
      go_roundw
      case rel => exact ⟨k + 1, by omega, by go_num, HF, hbr.alloc_ _⟩
      case measure => simp [intOf]; omega
  ·have HF := hid_trans HR (show _ = Q l from by rw [drop_all l k (by omega)]; rfl)
   clear HR HB
   have hbx := box_at hbr
   have hzx : w.heap.size < wr.heap.size := by have := hbr.b.size; simp at this; omega
   obtain ⟨wo, rfl⟩ : ∃ wo : World, wo = wr := ⟨_, rfl⟩
   go_wp2_with fail
   go_loopw [44] (fun i wi => ∃ (j : Nat), j ≤ l.length ∧ i = .int .i64 j ∧ Hid (decomposedB T = Q (l.drop j)) ∧ Ext wo wi) (fun i _ => l.length - (intOf i).toNat)
   case atStart => exact ⟨0, Nat.zero_le _, rfl, HF, Ext.refl _⟩
   case round =>
    obtain ⟨j, hj, rfl, HI, hbi⟩ := hrel
    have hb0i := hb0r.trans' hbi
    by_cases hltj : j < l.length
    ·obtain ⟨b, o, za, zn, zc, ha, h0, h1, h2⟩ := (hx.ext hb0i).at_ hltj
     subst ha
     have HD : Hid (l.drop j = l[j] :: l.drop (j + 1)) := drop_at l j hltj
     generalize l[j] = x at *
     obtain ⟨xl, xt⟩ := x
     simp only at h0 h1 h2
     have hbx2 := box_at (hbr.trans' hbi)
     have hzx2 : w.heap.size < wr.heap.size := by have := hbi.b.size; omega
     have hti := Lib.hid (ht.ext_ (hb0i.alloc_ (.cells #[.int .i64 xl, .slice za zn zc] 74)))
     have HS := hid_trans HI (show _ = ((fullT T.dec xl).2 && Q (l.drop (j + 1))) from by rw [HD.out, HQ.out]; rfl)
     clear hbx HI HD HF h2
     go_wp2_with fail
     refine (rfull_spec _ T xl _ hti.out HTO.out).mono ?_
     rintro e w3 ⟨A3, n3, c3, rfl, _, hb3⟩
     have hbi3 := (hbi.alloc_ (.cells #[.int .i64 xl, .slice za zn zc] 74)).trans' hb3
     cases hv : (fullT T.dec xl).2
     ·have HF := hid_trans HS (show _ = false from by rw [hv]; rfl)
      clear HS hv
      go_wp2_with fail
      go_ret
      exact ⟨ret_bool HF.out.symm, hb0r.trans' hbi3⟩
     ·have HF := hid_trans HS (show _ = Q (l.drop (j + 1)) from by rw [hv]; rfl)
      clear HS hv
      go_wp2_with fail
      go_roundw
      case rel => exact ⟨j + 1, by omega, by go_num, HF, hbi3⟩
      case measure => simp [intOf]; omega
    ·have HF2 := hid_trans HI (show _ = true from by rw [drop_all l j (by omega), HQ.out]; rfl)
     clear HI HF
     go_wp2
     go_ret
     exact ⟨ret_bool HF2.out.symm, hb0i⟩
end Go.Proofs.YtbdabjhankgcmaaGreatDoor
