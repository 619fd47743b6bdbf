/- Walk: namedesklaw9.dense. (By program: dn_gen.py.) -/
import Derived.Test.YtbdabjhankgcmaaGreatDoorGw
import Derived.Deep.LoopGhost
namespace Go.Proofs.YtbdabjhankgcmaaGreatDoor
open Go.RowKit
def den9L : List Int := [97, 98, 769, 776, 803, 837, 945, 7680, 7681, 7682, 7683, 7684, 4352, 4449, 4520, 44032]
def den9Go : Nat → List Int → List Int
 | 0, _ => []
 | n + 1, r => den9L.getD (nxV 16 r).toNat 0 :: den9Go n r.tail
def dens9 (m : List Int) : List Int := den9Go (nxV 16 m).toNat m.tail
theorem den9Go_len : ∀ n r, (den9Go n r).length = n
 | 0, _ => rfl
 | n + 1, r => by rw [den9Go, List.length_cons, den9Go_len n r.tail]
theorem den9Go_mem : ∀ n r, ∀ x ∈ den9Go n r, x ∈ den9L
 | 0, _, x, h => by cases h
 | n + 1, r, x, h => by
  rw [den9Go, List.mem_cons] at h
  rcases h with rfl | h
  ·have := nxV_bd r (n := 16) (by decide)
   rw [getD_lt _ _ _ (by simp [den9L]; omega)]
   exact List.getElem_mem _
  ·exact den9Go_mem n _ x h
theorem dens9_len (m : List Int) : (dens9 m).length < 16 := by
 have := nxV_bd m (n := 16) (by decide)
 rw [dens9, den9Go_len]
 omega
def Dn9Loop (w : World) (g : Nat) (L : List Int) (gh : Nat) (s4 s5 : Value) (wx : World) : Prop :=
 ∃ (A : Option Addr) (c : Nat) (acc r : List Int), s5 = .int .i64 gh ∧ s4 = .slice A acc.length c ∧ OwnI wx (g + 1) A acc.length c acc ∧ Src w wx g r ∧ Ext w wx ∧ Hid (L = acc ++ den9Go gh r) ∧ acc.length + gh < 16 ∧ g < wx.heap.size
set_option maxHeartbeats 1600000 in
set_option maxRecDepth 100000 in
theorem dense9_own (m : List Int) (A : Option Addr) (n c : Nat) (w : World) (h : IntS w ⟨A, n, c⟩ m) :
  Calls Tryz.prog 24 #[.slice A n c] w fun e w' => ∃ A n c, e = .returned (.slice A n c) ∧ OwnI w' (w.heap.size + 1) A n c (dens9 m) ∧ Ext w w' := by
 have HI := Lib.hid h
 clear h
 go_enter Tryz.func24, Tryz.ntmps24
 go_wp2_with fail
 refine (from_spec m A n c w HI.out).mono ?_
 rintro e w1 ⟨rfl, hs1, hb1⟩
 have hg1 : w.heap.size < w1.heap.size := by
  obtain ⟨_, _, _, _, _, _, _, h2, _⟩ := hs1
  exact World.block_lt_of_cell? w1 _ h2
 generalize hg : w.heap.size = g at *
 have HG := Lib.hid hg
 clear hg
 go_wp2_with fail
 refine (next_spec w w1 g m 16 (by decide) (by decide) hs1 hb1).mono ?_
 rintro e w2 ⟨rfl, hs2, hk2, hb2⟩
 have hz2 := hk2.size
 have hv9 := nxV_bd m (n := 16) (by decide)
 obtain ⟨N, hN⟩ : ∃ N : Nat, nxV 16 m = N := ⟨(nxV 16 m).toNat, by omega⟩
 have HJ : Hid (dens9 m = den9Go N m.tail) := Lib.hid (by rw [dens9, hN, Int.toNat_natCast])
 have hN9 : N < 16 := by omega
 rw [hN]
 have HS2 := Lib.hid hs2
 have HB2 := Lib.hid hb2
 clear hs1 hb1 hs2 hk2 hb2 hN hv9
 go_wp2_with fail
 go_loopg [4, 5] N (fun gh s4 s5 wx => Dn9Loop w g (dens9 m) gh s4 s5 wx)
 case atStart => exact ⟨none, 0, [], m.tail, rfl, rfl, Own.nil_ _ _ _ _, HS2.out, HB2.out, Lib.hid (by rw [HJ.out]; rfl), by simp; omega, by omega⟩
 case round =>
  obtain ⟨A4, c4, acc, r, rfl, rfl, hown, hsr, hbr, HR, hla, hgr⟩ := hrel
  have HO := Lib.hid hown
  have HSR := Lib.hid hsr
  have HBR := Lib.hid hbr
  clear hown hsr hbr HS2 HB2
  rcases Nat.eq_zero_or_pos gk with h0 | hpos
  ·subst h0
   have HF : Hid (dens9 m = acc) := Lib.hid (by rw [HR.out]; simp [den9Go])
   go_wp2_with fail
   go_ret
   exact ⟨A4, _, c4, rfl, by rw [HF.out, HG.out]; exact HO.out, HBR.out⟩
  ·obtain ⟨gk', rfl⟩ : ∃ g', gk = g' + 1 := ⟨gk - 1, by omega⟩
   have hd : decide ((0 : Int) < ((gk' + 1 : Nat) : Int)) = true := by simp
   have hv := nxV_bd r (n := 16) (by decide)
   obtain ⟨v, hvv⟩ : ∃ v : Nat, nxV 16 r = v := ⟨(nxV 16 r).toNat, by omega⟩
   have hvl : v < 16 := by omega
   obtain ⟨y, hy⟩ : ∃ y, den9L.getD v 0 = y := ⟨_, rfl⟩
   have HR1 : Hid (dens9 m = (acc ++ [y]) ++ den9Go gk' r.tail) := Lib.hid (by rw [HR.out, den9Go, hvv, Int.toNat_natCast, hy]; simp)
   have HV := Lib.hid hvv
   have hx1 : Ext wr (wr.alloc (.cells #[.int .i64 97, .int .i64 98, .int .i64 769, .int .i64 776, .int .i64 803, .int .i64 837, .int .i64 945, .int .i64 7680, .int .i64 7681, .int .i64 7682, .int .i64 7683, .int .i64 7684, .int .i64 4352, .int .i64 4449, .int .i64 4520, .int .i64 44032] 3)) := (Ext.refl _).alloc_ _
   have hcell : (wr.alloc (.cells #[.int .i64 97, .int .i64 98, .int .i64 769, .int .i64 776, .int .i64 803, .int .i64 837, .int .i64 945, .int .i64 7680, .int .i64 7681, .int .i64 7682, .int .i64 7683, .int .i64 7684, .int .i64 4352, .int .i64 4449, .int .i64 4520, .int .i64 44032] 3)).cell? ⟨wr.heap.size, v, none⟩ = some (.int .i64 y) := by
    rw [World.cell?_alloc_new, ← hy]
    match v, hvl with
    | 0, _ | 1, _ | 2, _ | 3, _ | 4, _ | 5, _ | 6, _ | 7, _ | 8, _ | 9, _ | 10, _ | 11, _ | 12, _ | 13, _ | 14, _ | 15, _ => rfl
    | n + 16, h => exact absurd h (by omega)
   have HX1 := Lib.hid hx1
   have HCE := Lib.hid hcell
   clear HR hv hvv hy hx1 hcell
   go_wp2_with fail
   refine (next_spec w _ g r 16 (by decide) (by decide) (HSR.out.kp (M := []) (Kp.ofExt HX1.out) (by simp)) (HBR.out.trans' HX1.out)).mono ?_
   rintro e w3 ⟨rfl, hs3, hk3, hb3⟩
   rw [HV.out]
   have hz3 : wr.heap.size + 1 ≤ w3.heap.size := by have h' := hk3.size; simpa using h'
   have hc3 : w3.cell? ⟨wr.heap.size, v, none⟩ = some (.int .i64 y) := (hk3.cell ⟨wr.heap.size, v, none⟩ (by simp) (by simp; omega)).trans HCE.out
   have HO3 : Hid (OwnI w3 (g + 1) A4 acc.length c4 acc) := Lib.hid (Own.kp (Own.ext HO.out HX1.out) hk3 (fun b hb => by have := (Own.lt HO.out b hb).1; simp; omega))
   have hi0 : (0 : Int) ≤ (v : Int) := Int.natCast_nonneg _
   have hi1 : (v : Int) < 16 := by omega
   have hx4 : Ext w3 (w3.alloc (.cells #[.int .i64 y] 3)) := (Ext.refl _).alloc_ _
   obtain ⟨A5, c5, w5, hrun, hown5, hgr5, hat5⟩ := append_ints (Own.ext HO3.out hx4) (one_int w3 y) (by omega) (by simp; omega)
   have HO5 := Lib.hid hown5
   have hk45 : Kp (blkOf A4).toList (w3.alloc (.cells #[.int .i64 y] 3)) w5 := Kp.ofGrown hgr5 (by intro b hb; simp [hb])
   have HS5 : Hid (Src w w5 g r.tail) := Lib.hid ((hs3.kp (M := []) (Kp.ofExt hx4) (by simp)).kp hk45 (by simp only [Option.mem_toList]; intro e; have := (Own.lt HO3.out g e).1; omega))
   have HB5 : Hid (Ext w w5) := Lib.hid (ext_of_grown (hb3.trans' hx4) hgr5 (fun k hk => by have := (Own.lt HO3.out k hk).1; have := HG.out; omega))
   have hz5 : w3.heap.size ≤ w5.heap.size := Nat.le_trans hx4.b.size hgr5.size
   clear hs3 hk3 hb3 hown5 hgr5 hat5 hk45 hx4
   go_wp2_with (at_builtin; refine wpList_run_append rfl _ _ _ rfl _ _ rfl rfl _ _ hrun ?_)
   go_roundg gk'
   case measure => omega
   case rel => exact ⟨A5, c5, acc ++ [y], r.tail, by go_num, by simp, by simpa using HO5.out, HS5.out, HB5.out, HR1, by simp; omega, by omega⟩
theorem dense9_spec (m : List Int) (A : Option Addr) (n c : Nat) (w : World) (h : IntS w ⟨A, n, c⟩ m) :
  Calls Tryz.prog 24 #[.slice A n c] w (IntsPost w (dens9 m)) :=
 (dense9_own m A n c w h).mono fun _ _ ⟨A, n, c, he, ho, hb⟩ => ⟨A, n, c, he, OwnI.ints ho, hb⟩
end Go.Proofs.YtbdabjhankgcmaaGreatDoor
