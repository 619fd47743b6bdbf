/- Walks: keep.word, keep.Word. (By program: hw_gen.py.) -/
import Derived.Test.YtbdabjhankgcmaaGreatDoorGw
import Derived.Test.YtbdabjhankgcmaaGreatDoorGa
import Derived.Deep.LoopGhost
namespace Go.Proofs.YtbdabjhankgcmaaGreatDoor
open Go.RowKit
def woS : List Int := [97, 98, 109, 110, 111, 114, 48, 120, 121]
def woJ : List Int := [769, 803, 945, 946, 1072, 1488, 1576, 1632, 7680, 7681, 7682, 19968, 44032, 8204, 2381]
def woV (r : List Int) : Int := if nxV 2 r = 0 then woS.getD (nxV 9 r.tail).toNat 0 else woJ.getD (nxV 15 r.tail).toNat 0
def woGo : Nat → List Int → List Int
 | 0, _ => []
 | n + 1, r => woV r :: woGo n r.tail.tail
def wordL (m : List Int) : List Int := woGo (1 + nxV 6 m).toNat m.tail
theorem woGo_len : ∀ n r, (woGo n r).length = n
 | 0, _ => rfl
 | n + 1, r => by rw [woGo, List.length_cons, woGo_len n]
theorem wordL_len (m : List Int) : 1 ≤ (wordL m).length ∧ (wordL m).length < 7 := by
 have := nxV_bd m (n := 6) (by decide)
 rw [wordL, woGo_len]
 omega
theorem woV_mem (r : List Int) : woV r ∈ woS ++ woJ := by
 unfold woV
 split
 ·have := nxV_bd r.tail (n := 9) (by decide)
  rw [getD_lt _ _ _ (by simp [woS]; omega)]
  exact List.mem_append_left _ (List.getElem_mem _)
 ·have := nxV_bd r.tail (n := 15) (by decide)
  rw [getD_lt _ _ _ (by simp [woJ]; omega)]
  exact List.mem_append_right _ (List.getElem_mem _)
theorem woGo_mem : ∀ n r, ∀ x ∈ woGo n r, x ∈ woS ++ woJ
 | 0, _, x, h => by cases h
 | n + 1, r, x, h => by
  rw [woGo, List.mem_cons] at h
  rcases h with rfl | h
  ·exact woV_mem r
  ·exact woGo_mem n _ x h
def WoPost (w0 w : World) (g : Nat) (r : List Int) (e : Ending) (w' : World) : Prop := e = .returned (.int .i64 (woV r)) ∧ Src w0 w' g r.tail.tail ∧ Kp [g] w w' ∧ Ext w0 w'
set_option maxHeartbeats 1600000 in
set_option maxRecDepth 100000 in
theorem kword_spec (w0 w : World) (g : Nat) (r : List Int) (hs : Src w0 w g r) (hb : Ext w0 w) :
  Calls Tryz.prog 73 #[.pointer (some ⟨g, 0, none⟩)] w (WoPost w0 w g r) := by
 have hgw : g < w.heap.size := by
  obtain ⟨_, _, _, _, _, _, _, h2, _⟩ := hs
  exact World.block_lt_of_cell? w _ h2
 have hv2 := nxV_bd r (n := 2) (by decide)
 obtain ⟨k, hk⟩ : ∃ k : Nat, nxV 2 r = k := ⟨(nxV 2 r).toNat, by omega⟩
 have hk2 : k < 2 := by omega
 obtain ⟨V, hV⟩ : ∃ V, V = woV r := ⟨_, rfl⟩
 have HV : Hid (V = if (k : Int) = 0 then woS.getD (nxV 9 r.tail).toNat 0 else woJ.getD (nxV 15 r.tail).toNat 0) := Lib.hid (by rw [hV, woV, hk])
 unfold WoPost
 rw [← hV]
 have HK := Lib.hid hk
 have HS := Lib.hid hs
 clear hV hk hv2 hs
 go_enter Tryz.func73, Tryz.ntmps73
 go_wp2_with fail
 refine (next_spec w0 w g r 2 (by decide) (by decide) HS.out hb).mono ?_
 rintro e w2 ⟨rfl, hs2, hk2', hb2⟩
 rw [HK.out]
 have HS2 := Lib.hid hs2
 have HK2 := Lib.hid hk2'
 have HB2 := Lib.hid hb2
 have hz2 := hk2'.size
 clear hs2 hk2' hb2 HS
 match k, hk2 with
 | 0, _ =>
  have HF : Hid (V = woS.getD (nxV 9 r.tail).toNat 0) := HV
  have hv := nxV_bd r.tail (n := 9) (by decide)
  obtain ⟨v, hvv⟩ : ∃ v : Nat, nxV 9 r.tail = v := ⟨(nxV 9 r.tail).toNat, by omega⟩
  have hvl : v < 9 := by omega
  have HF2 : Hid (V = woS.getD v 0) := Lib.hid (by rw [HF.out, hvv, Int.toNat_natCast])
  have HVV := Lib.hid hvv
  clear HV HF hv hvv
  go_wp2_with fail
  refine (next_spec w0 w2 g r.tail 9 (by decide) (by decide) HS2.out HB2.out).mono ?_
  rintro e w3 ⟨rfl, hs3, hk3, hb3⟩
  rw [HVV.out]
  have HS3 := Lib.hid hs3
  have HK3 := Lib.hid (HK2.out.trans hk3)
  have HB3 := Lib.hid hb3
  clear hs3 hk3 hb3 HVV
  match v, hvl with
  | 0, _ | 1, _ | 2, _ | 3, _ | 4, _ | 5, _ | 6, _ | 7, _ | 8, _ =>
   go_wp2_with fail
   go_ret
   exact ⟨ret_int (by rw [HF2.out]; decide +kernel), HS3.out, HK3.out, HB3.out⟩
  | n + 9, h => exact absurd h (by omega)
 | 1, _ =>
  have HF : Hid (V = woJ.getD (nxV 15 r.tail).toNat 0) := HV
  have hv := nxV_bd r.tail (n := 15) (by decide)
  obtain ⟨v, hvv⟩ : ∃ v : Nat, nxV 15 r.tail = v := ⟨(nxV 15 r.tail).toNat, by omega⟩
  have hvl : v < 15 := by omega
  obtain ⟨y, hy⟩ : ∃ y, woJ.getD v 0 = y := ⟨_, rfl⟩
  have HF2 : Hid (V = y) := Lib.hid (by rw [HF.out, hvv, Int.toNat_natCast, hy])
  have HVV := Lib.hid hvv
  have hx1 : Ext w2 (w2.alloc (.cells #[.int .i64 769, .int .i64 803, .int .i64 945, .int .i64 946, .int .i64 1072, .int .i64 1488, .int .i64 1576, .int .i64 1632, .int .i64 7680, .int .i64 7681, .int .i64 7682, .int .i64 19968, .int .i64 44032, .int .i64 8204, .int .i64 2381] 3)) := (Ext.refl _).alloc_ _
  have hcell : (w2.alloc (.cells #[.int .i64 769, .int .i64 803, .int .i64 945, .int .i64 946, .int .i64 1072, .int .i64 1488, .int .i64 1576, .int .i64 1632, .int .i64 7680, .int .i64 7681, .int .i64 7682, .int .i64 19968, .int .i64 44032, .int .i64 8204, .int .i64 2381] 3)).cell? ⟨w2.heap.size, v, none⟩ = some (.int .i64 y) := by
   rw [World.cell?_alloc_new, ← hy]
   match v, hvl with
   | 0, _ | 1, _ | 2, _ | 3, _ | 4, _ | 5, _ | 6, _ | 7, _ | 8, _ | 9, _ | 10, _ | 11, _ | 12, _ | 13, _ | 14, _ => rfl
   | n + 15, h => exact absurd h (by omega)
  have HX1 := Lib.hid hx1
  have HCE := Lib.hid hcell
  have hi0 : (0 : Int) ≤ (v : Int) := Int.natCast_nonneg _
  have hi1 : (v : Int) < 15 := by omega
  clear HV HF hv hvv hy hx1 hcell
  go_wp2_with fail
  refine (next_spec w0 _ g r.tail 15 (by decide) (by decide) (HS2.out.kp (M := []) (Kp.ofExt HX1.out) (by simp)) (HB2.out.trans' HX1.out)).mono ?_
  rintro e w3 ⟨rfl, hs3, hk3, hb3⟩
  rw [HVV.out]
  have hc3 : w3.cell? ⟨w2.heap.size, v, none⟩ = some (.int .i64 y) := (hk3.cell ⟨w2.heap.size, v, none⟩ (by simp) (by simp; omega)).trans HCE.out
  have HS3 := Lib.hid hs3
  have HK3 := Lib.hid ((HK2.out.trans (Kp.ofExt HX1.out)).trans hk3)
  have HB3 := Lib.hid hb3
  clear hs3 hk3 hb3 HVV HCE
  go_wp2_with fail
  go_ret
  exact ⟨ret_int HF2.out.symm, HS3.out, HK3.out, HB3.out⟩
 | n + 2, h => exact absurd h (by omega)
def WoLoop (w : World) (g : Nat) (L : List Int) (gh : Nat) (s4 s5 : Value) (wx : World) : Prop :=
 ∃ (A : Option Addr) (c : Nat) (acc r : List Int), s5 = .int .i64 gh ∧ s4 = .slice A acc.length c ∧ OwnI wx (g + 1) A acc.length c acc ∧ Src w wx g r ∧ Ext w wx ∧ Hid (L = acc ++ woGo gh r) ∧ acc.length + gh < 7 ∧ g < wx.heap.size
set_option maxHeartbeats 1600000 in
set_option maxRecDepth 100000 in
theorem kwords_spec (m : List Int) (A : Option Addr) (n c : Nat) (w : World) (h : IntS w ⟨A, n, c⟩ m) :
  Calls Tryz.prog 35 #[.slice A n c] w (IntsPost w (wordL m)) := by
 have HI := Lib.hid h
 clear h
 go_enter Tryz.func35, Tryz.ntmps35
 go_wp2_with fail
 refine (from_spec m A n c w HI.out).mono ?_
 rintro e w1 ⟨rfl, hs1, hb1⟩
 have hg1 : w.heap.size < w1.heap.size := by
  obtain ⟨_, _, _, _, _, _, _, h2, _⟩ := hs1
  exact World.block_lt_of_cell? w1 _ h2
 generalize hg : w.heap.size = g at *
 have HG := Lib.hid hg
 clear hg
 go_wp2_with fail
 refine (next_spec w w1 g m 6 (by decide) (by decide) hs1 hb1).mono ?_
 rintro e w2 ⟨rfl, hs2, hk2, hb2⟩
 have hz2 := hk2.size
 have hv9 := nxV_bd m (n := 6) (by decide)
 obtain ⟨N, hN⟩ : ∃ N : Nat, 1 + nxV 6 m = N := ⟨(1 + nxV 6 m).toNat, by omega⟩
 have HJ : Hid (wordL m = woGo N m.tail) := Lib.hid (by rw [wordL, hN, Int.toNat_natCast])
 have hN9 : N < 7 := by omega
 have hN1 : nxV 6 m = (N : Int) - 1 := by omega
 rw [hN1]
 have hN2 : (1 : Int) + ((N : Int) - 1) = (N : Int) := by omega
 have HS2 := Lib.hid hs2
 have HB2 := Lib.hid hb2
 clear hs1 hb1 hs2 hk2 hb2 hN hv9 hN1
 go_wp2_with fail
 go_loopg [4, 5] N (fun gh s4 s5 wx => WoLoop w g (wordL m) gh s4 s5 wx)
 case atStart => exact ⟨none, 0, [], m.tail, rfl, rfl, Own.nil_ _ _ _ _, HS2.out, HB2.out, Lib.hid (by rw [HJ.out]; rfl), by simp; omega, by omega⟩
 case round =>
  obtain ⟨A4, c4, acc, r, rfl, rfl, hown, hsr, hbr, HR, hla, hgr⟩ := hrel
  have HO := Lib.hid hown
  have HSR := Lib.hid hsr
  have HBR := Lib.hid hbr
  clear hown hsr hbr HS2 HB2
  rcases Nat.eq_zero_or_pos gk with h0 | hpos
  ·subst h0
   have HF : Hid (wordL m = acc) := Lib.hid (by rw [HR.out]; simp [woGo])
   go_wp2_with fail
   go_ret
   exact ⟨A4, _, c4, rfl, by rw [HF.out]; exact OwnI.ints HO.out, HBR.out⟩
  ·obtain ⟨gk', rfl⟩ : ∃ g', gk = g' + 1 := ⟨gk - 1, by omega⟩
   have hd : decide ((0 : Int) < ((gk' + 1 : Nat) : Int)) = true := by simp
   obtain ⟨y, hy⟩ : ∃ y, woV r = y := ⟨_, rfl⟩
   have HR1 : Hid (wordL m = (acc ++ [y]) ++ woGo gk' r.tail.tail) := Lib.hid (by rw [HR.out, woGo, hy]; simp)
   have HY := Lib.hid hy
   clear HR hy
   go_wp2_with fail
   refine (kword_spec w wr g r HSR.out HBR.out).mono ?_
   rintro e w3 ⟨rfl, hs3, hk3, hb3⟩
   rw [HY.out]
   have hz3 : wr.heap.size ≤ w3.heap.size := hk3.size
   have HO3 : Hid (OwnI w3 (g + 1) A4 acc.length c4 acc) := Lib.hid (Own.kp HO.out hk3 (fun b hb => by have := (Own.lt HO.out b hb).1; simp; omega))
   have hx4 : Ext w3 (w3.alloc (.cells #[.int .i64 y] 3)) := (Ext.refl _).alloc_ _
   obtain ⟨A5, c5, w5, hrun, hown5, hgr5, hat5⟩ := append_ints (Own.ext HO3.out hx4) (one_int w3 y) (by omega) (by simp; omega)
   have HO5 := Lib.hid hown5
   have hk45 : Kp (blkOf A4).toList (w3.alloc (.cells #[.int .i64 y] 3)) w5 := Kp.ofGrown hgr5 (by intro b hb; simp [hb])
   have HS5 : Hid (Src w w5 g r.tail.tail) := Lib.hid ((hs3.kp (M := []) (Kp.ofExt hx4) (by simp)).kp hk45 (by simp only [Option.mem_toList]; intro e; have := (Own.lt HO3.out g e).1; omega))
   have HB5 : Hid (Ext w w5) := Lib.hid (ext_of_grown (hb3.trans' hx4) hgr5 (fun k hk => by have := (Own.lt HO3.out k hk).1; have := HG.out; omega))
   have hz5 : w3.heap.size ≤ w5.heap.size := Nat.le_trans hx4.b.size hgr5.size
   clear hs3 hk3 hb3 hown5 hgr5 hat5 hk45 hx4
   go_wp2_with (at_builtin; refine wpList_run_append rfl _ _ _ rfl _ _ rfl rfl _ _ hrun ?_)
   go_roundg gk'
   case measure => omega
   case rel => exact ⟨A5, c5, acc ++ [y], r.tail.tail, by go_num, by simp, by simpa using HO5.out, HS5.out, HB5.out, HR1, by simp; omega, by omega⟩
end Go.Proofs.YtbdabjhankgcmaaGreatDoor
