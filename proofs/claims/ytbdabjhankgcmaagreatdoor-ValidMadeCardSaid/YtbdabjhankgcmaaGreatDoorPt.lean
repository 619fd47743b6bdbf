/- Walks: keep.point, keep.Points. -/
import Derived.Test.YtbdabjhankgcmaaGreatDoorGh
import Derived.Test.YtbdabjhankgcmaaGreatDoorGa
import Derived.Deep.LoopGhost
namespace Go.Proofs.YtbdabjhankgcmaaGreatDoor
open Go.RowKit
def ptS : List Int := [97, 98, 109, 110, 111, 114, 48, 45, 120, 65, 90, 49]
def ptJ : List Int := [4352, 4449, 4520, 46]
def ptV (r : List Int) : Int :=
 if nxV 8 r ≤ 2 then ptS.getD (nxV 12 r.tail).toNat 0 else if nxV 8 r = 3 then 44032 + nxV 60 r.tail else if nxV 8 r = 4 then ptJ.getD (nxV 4 r.tail).toNat 0 else poolL.getD (nxV 28 r.tail).toNat 0
def ptGo : Nat → List Int → List Int
 | 0, _ => []
 | n + 1, r => ptV r :: ptGo n r.tail.tail
def pointsL (m : List Int) : List Int := ptGo (nxV 11 m).toNat m.tail
theorem ptGo_len : ∀ n r, (ptGo n r).length = n
 | 0, _ => rfl
 | n + 1, r => by rw [ptGo, List.length_cons, ptGo_len n]
theorem pointsL_len (m : List Int) : (pointsL m).length < 11 := by
 have := nxV_bd m (n := 11) (by decide)
 rw [pointsL, ptGo_len]
 omega
def PtPost (w0 w : World) (g : Nat) (r : List Int) (e : Ending) (w' : World) : Prop := e = .returned (.int .i64 (ptV r)) ∧ Src w0 w' g r.tail.tail ∧ Kp [g] w w' ∧ Ext w0 w'
set_option maxHeartbeats 1600000 in
set_option maxRecDepth 100000 in
theorem kpoint_spec (w0 w : World) (g : Nat) (r : List Int) (hs : Src w0 w g r) (hb : Ext w0 w) :
  Calls Tryz.prog 74 #[.pointer (some ⟨g, 0, none⟩)] w (PtPost w0 w g r) := by
 have hgw : g < w.heap.size := by
  obtain ⟨_, _, _, _, _, _, _, h2, _⟩ := hs
  exact World.block_lt_of_cell? w _ h2
 have hv8 := nxV_bd r (n := 8) (by decide)
 obtain ⟨k, hk⟩ : ∃ k : Nat, nxV 8 r = k := ⟨(nxV 8 r).toNat, by omega⟩
 have hk8 : k < 8 := by omega
 obtain ⟨V, hV⟩ : ∃ V, V = ptV r := ⟨_, rfl⟩
 have HV : Hid (V = if (k : Int) ≤ 2 then ptS.getD (nxV 12 r.tail).toNat 0 else if (k : Int) = 3 then 44032 + nxV 60 r.tail else if (k : Int) = 4 then ptJ.getD (nxV 4 r.tail).toNat 0 else poolL.getD (nxV 28 r.tail).toNat 0) := Lib.hid (by rw [hV, ptV, hk])
 unfold PtPost
 rw [← hV]
 have HK := Lib.hid hk
 have HS := Lib.hid hs
 clear hV hk hv8 hs
 go_enter Tryz.func74, Tryz.ntmps74
 go_wp2_with fail
 refine (pool_spec w).mono ?_
 rintro e w1 ⟨rfl, hp1, hb1⟩
 have HP1 := Lib.hid hp1
 have hg1 : w.heap.size < w1.heap.size := World.block_lt_of_cell? w1 ⟨w.heap.size, 0 + 0, none⟩ (by obtain ⟨b, o, h1, h2⟩ := hp1.at_ (i := 0) (by decide); injection h1 with h1; injection h1 with e1 e2; subst e1 e2; exact h2)
 clear hp1
 go_wp2_with fail
 refine (next_spec w0 w1 g r 8 (by decide) (by decide) (HS.out.kp (M := []) (Kp.ofExt hb1) (by simp)) (hb.trans' hb1)).mono ?_
 rintro e w2 ⟨rfl, hs2, hk2, hb2⟩
 rw [HK.out]
 have HS2 := Lib.hid hs2
 have HK2 : Hid (Kp [g] w w2) := Lib.hid ((Kp.ofExt hb1).trans hk2)
 have HK12 := Lib.hid hk2
 have HB2 := Lib.hid hb2
 have hz2 := hk2.size
 clear hs2 hk2 hb2 hb1 HS
 have strCase : ∀ k : Nat, k ≤ 2 → Hid (V = ptS.getD (nxV 12 r.tail).toNat 0) → True := fun _ _ _ => trivial
 clear strCase
 match k, hk8 with
 | 0, _ | 1, _ | 2, _ =>
  have HF : Hid (V = ptS.getD (nxV 12 r.tail).toNat 0) := HV
  have hv := nxV_bd r.tail (n := 12) (by decide)
  obtain ⟨v, hvv⟩ : ∃ v : Nat, nxV 12 r.tail = v := ⟨(nxV 12 r.tail).toNat, by omega⟩
  have hvl : v < 12 := by omega
  have HF2 : Hid (V = ptS.getD v 0) := Lib.hid (by rw [HF.out, hvv, Int.toNat_natCast])
  have HVV := Lib.hid hvv
  clear HV HF hv hvv
  go_wp2_with fail
  refine (next_spec w0 w2 g r.tail 12 (by decide) (by decide) HS2.out HB2.out).mono ?_
  rintro e w3 ⟨rfl, hs3, hk3, hb3⟩
  rw [HVV.out]
  have HS3 := Lib.hid hs3
  have HK3 := Lib.hid (HK2.out.trans hk3)
  have HB3 := Lib.hid hb3
  clear hs3 hk3 hb3 HVV
  match v, hvl with
  | 0, _ | 1, _ | 2, _ | 3, _ | 4, _ | 5, _ | 6, _ | 7, _ | 8, _ | 9, _ | 10, _ | 11, _ =>
   go_wp2_with fail
   go_ret
   exact ⟨ret_int (by rw [HF2.out]; decide +kernel), HS3.out, HK3.out, HB3.out⟩
 | 3, _ =>
  have HF : Hid (V = 44032 + nxV 60 r.tail) := HV
  have hv := nxV_bd r.tail (n := 60) (by decide)
  clear HV
  go_wp2_with fail
  refine (next_spec w0 w2 g r.tail 60 (by decide) (by decide) HS2.out HB2.out).mono ?_
  rintro e w3 ⟨rfl, hs3, hk3, hb3⟩
  have HS3 := Lib.hid hs3
  have HK3 := Lib.hid (HK2.out.trans hk3)
  have HB3 := Lib.hid hb3
  clear hs3 hk3 hb3
  go_wp2_with fail
  go_ret
  exact ⟨by rw [HF.out]; go_num, HS3.out, HK3.out, HB3.out⟩
 | 4, _ =>
  have HF : Hid (V = ptJ.getD (nxV 4 r.tail).toNat 0) := HV
  have hv := nxV_bd r.tail (n := 4) (by decide)
  obtain ⟨v, hvv⟩ : ∃ v : Nat, nxV 4 r.tail = v := ⟨(nxV 4 r.tail).toNat, by omega⟩
  have hvl : v < 4 := by omega
  obtain ⟨y, hy⟩ : ∃ y, ptJ.getD v 0 = y := ⟨_, rfl⟩
  have HF2 : Hid (V = y) := Lib.hid (by rw [HF.out, hvv, Int.toNat_natCast, hy])
  have HVV := Lib.hid hvv
  have hx1 : Ext w2 (w2.alloc (.cells #[.int .i64 4352, .int .i64 4449, .int .i64 4520, .int .i64 46] 3)) := (Ext.refl _).alloc_ _
  have hcell : (w2.alloc (.cells #[.int .i64 4352, .int .i64 4449, .int .i64 4520, .int .i64 46] 3)).cell? ⟨w2.heap.size, v, none⟩ = some (.int .i64 y) := by
   rw [World.cell?_alloc_new, ← hy]
   match v, hvl with
   | 0, _ | 1, _ | 2, _ | 3, _ => rfl
  have HX1 := Lib.hid hx1
  have HCE := Lib.hid hcell
  have hi0 : (0 : Int) ≤ (v : Int) := Int.natCast_nonneg _
  have hi1 : (v : Int) < 4 := by omega
  clear HV HF hv hvv hy hx1 hcell
  go_wp2_with fail
  refine (next_spec w0 _ g r.tail 4 (by decide) (by decide) (HS2.out.kp (M := []) (Kp.ofExt HX1.out) (by simp)) (HB2.out.trans' HX1.out)).mono ?_
  rintro e w3 ⟨rfl, hs3, hk3, hb3⟩
  rw [HVV.out]
  have hc3 : w3.cell? ⟨w2.heap.size, v, none⟩ = some (.int .i64 y) := (hk3.cell ⟨w2.heap.size, v, none⟩ (by simp) (by simp; omega)).trans HCE.out
  have HS3 := Lib.hid hs3
  have HK3 := Lib.hid ((HK2.out.trans (Kp.ofExt HX1.out)).trans hk3)
  have HB3 := Lib.hid hb3
  clear hs3 hk3 hb3 HVV HCE
  go_wp2_with fail
  go_ret
  exact ⟨ret_int HF2.out.symm, HS3.out, HK3.out, HB3.out⟩
 | 5, _ | 6, _ | 7, _ =>
  have HF : Hid (V = poolL.getD (nxV 28 r.tail).toNat 0) := HV
  have hv := nxV_bd r.tail (n := 28) (by decide)
  obtain ⟨v, hvv⟩ : ∃ v : Nat, nxV 28 r.tail = v := ⟨(nxV 28 r.tail).toNat, by omega⟩
  have hvl : v < 28 := by omega
  have hvp : v < poolL.length := hvl
  have HF2 : Hid (V = poolL[v]) := Lib.hid (by rw [HF.out, hvv, Int.toNat_natCast, getD_lt _ _ _ hvp])
  have HVV := Lib.hid hvv
  obtain ⟨b, o, h1, hcv⟩ := HP1.out.at_ (i := v) hvp
  injection h1 with h1
  injection h1 with e1 e2
  subst e1 e2
  rw [Nat.zero_add] at hcv
  generalize poolL[v] = y at *
  have hi0 : (0 : Int) ≤ (v : Int) := Int.natCast_nonneg _
  have hi1 : (v : Int) < 28 := by omega
  clear HV HF hv hvv
  go_wp2_with fail
  refine (next_spec w0 w2 g r.tail 28 (by decide) (by decide) HS2.out HB2.out).mono ?_
  rintro e w3 ⟨rfl, hs3, hk3, hb3⟩
  rw [HVV.out]
  have hc3 : w3.cell? ⟨w.heap.size, v, none⟩ = some (.int .i64 y) := ((HK12.out.trans hk3).cell ⟨w.heap.size, v, none⟩ hg1 (by simp; omega)).trans hcv
  have HS3 := Lib.hid hs3
  have HK3 := Lib.hid (HK2.out.trans hk3)
  have HB3 := Lib.hid hb3
  clear hs3 hk3 hb3 HVV
  go_wp2_with fail
  go_ret
  exact ⟨ret_int HF2.out.symm, HS3.out, HK3.out, HB3.out⟩
def IntsR (w : World) (l : List Int) (e : Ending) (w' : World) : Prop := ∃ A n c, e = .returned (.slice A n c) ∧ IntS w' ⟨A, n, c⟩ l ∧ Ext w w'
def PtLoop (w : World) (g : Nat) (L : List Int) (gh : Nat) (s4 s5 : Value) (wx : World) : Prop :=
 ∃ (A : Option Addr) (c : Nat) (acc r : List Int), s5 = .int .i64 gh ∧ s4 = .slice A acc.length c ∧ OwnI wx (g + 1) A acc.length c acc ∧ Src w wx g r ∧ Ext w wx ∧ Hid (L = acc ++ ptGo gh r) ∧ acc.length + gh < 11 ∧ g < wx.heap.size
set_option maxHeartbeats 1600000 in
set_option maxRecDepth 100000 in
theorem kpoints_spec (m : List Int) (A : Option Addr) (n c : Nat) (w : World) (h : IntS w ⟨A, n, c⟩ m) :
  Calls Tryz.prog 36 #[.slice A n c] w (IntsR w (pointsL m)) := by
 have HI := Lib.hid h
 clear h
 go_enter Tryz.func36, Tryz.ntmps36
 go_wp2_with fail
 refine (from_spec m A n c w HI.out).mono ?_
 rintro e w1 ⟨rfl, hs1, hb1⟩
 have hg1 : w.heap.size < w1.heap.size := by
  obtain ⟨_, _, _, _, _, _, _, h2, _⟩ := hs1
  exact World.block_lt_of_cell? w1 _ h2
 generalize hg : w.heap.size = g at *
 have HG := Lib.hid hg
 clear hg
 go_wp2_with fail
 refine (next_spec w w1 g m 11 (by decide) (by decide) hs1 hb1).mono ?_
 rintro e w2 ⟨rfl, hs2, hk2, hb2⟩
 have hz2 := hk2.size
 have hv9 := nxV_bd m (n := 11) (by decide)
 obtain ⟨N, hN⟩ : ∃ N : Nat, nxV 11 m = N := ⟨(nxV 11 m).toNat, by omega⟩
 have HJ : Hid (pointsL m = ptGo N m.tail) := Lib.hid (by rw [pointsL, hN, Int.toNat_natCast])
 have hN9 : N < 11 := by omega
 rw [hN]
 have HS2 := Lib.hid hs2
 have HB2 := Lib.hid hb2
 clear hs1 hb1 hs2 hk2 hb2 hN hv9
 go_wp2_with fail
 go_loopg [4, 5] N (fun gh s4 s5 wx => PtLoop w g (pointsL m) gh s4 s5 wx)
 case atStart => exact ⟨none, 0, [], m.tail, rfl, rfl, Own.nil_ _ _ _ _, HS2.out, HB2.out, Lib.hid (by rw [HJ.out]; rfl), by simp; omega, by omega⟩
 case round =>
  obtain ⟨A4, c4, acc, r, rfl, rfl, hown, hsr, hbr, HR, hla, hgr⟩ := hrel
  have HO := Lib.hid hown
  have HSR := Lib.hid hsr
  have HBR := Lib.hid hbr
  clear hown hsr hbr HS2 HB2
  rcases Nat.eq_zero_or_pos gk with h0 | hpos
  ·subst h0
   have HF : Hid (pointsL m = acc) := Lib.hid (by rw [HR.out]; simp [ptGo])
   go_wp2_with fail
   go_ret
   exact ⟨A4, _, c4, rfl, by rw [HF.out]; exact OwnI.ints HO.out, HBR.out⟩
  ·obtain ⟨gk', rfl⟩ : ∃ g', gk = g' + 1 := ⟨gk - 1, by omega⟩
   have hd : decide ((0 : Int) < ((gk' + 1 : Nat) : Int)) = true := by simp
   obtain ⟨y, hy⟩ : ∃ y, ptV r = y := ⟨_, rfl⟩
   have HR1 : Hid (pointsL m = (acc ++ [y]) ++ ptGo gk' r.tail.tail) := Lib.hid (by rw [HR.out, ptGo, hy]; simp)
   have HY := Lib.hid hy
   clear HR hy
   go_wp2_with fail
   refine (kpoint_spec w wr g r HSR.out HBR.out).mono ?_
   rintro e w3 ⟨rfl, hs3, hk3, hb3⟩
   rw [HY.out]
   have hz3 : wr.heap.size ≤ w3.heap.size := hk3.size
   have HO3 : Hid (OwnI w3 (g + 1) A4 acc.length c4 acc) := Lib.hid (Own.kp HO.out hk3 (fun b hb => by have := (Own.lt HO.out b hb).1; simp; omega))
   have hx4 : Ext w3 (w3.alloc (.cells #[.int .i64 y] 3)) := (Ext.refl _).alloc_ _
   obtain ⟨A5, c5, w5, hrun, hown5, hgr5, hat5⟩ := append_ints (Own.ext HO3.out hx4) (one_int w3 y) (by omega) (by simp; omega)
   have HO5 := Lib.hid hown5
   have hk45 : Kp (blkOf A4).toList (w3.alloc (.cells #[.int .i64 y] 3)) w5 := Kp.ofGrown hgr5 (by intro b hb; simp [hb])
   have HS5 : Hid (Src w w5 g r.tail.tail) := Lib.hid ((hs3.kp (M := []) (Kp.ofExt hx4) (by simp)).kp hk45 (by simp only [Option.mem_toList]; intro e; have := (Own.lt HO3.out g e).1; omega))
   have HB5 : Hid (Ext w w5) := Lib.hid (ext_of_grown (hb3.trans' hx4) hgr5 (fun k hk => by have := (Own.lt HO3.out k hk).1; have := HG.out; omega))
   have hz5 : w3.heap.size ≤ w5.heap.size := Nat.le_trans hx4.b.size hgr5.size
   clear hs3 hk3 hb3 hown5 hgr5 hat5 hk45 hx4
   go_wp2_with (at_builtin; refine wpList_run_append rfl _ _ _ rfl _ _ rfl rfl _ _ hrun ?_)
   go_roundg gk'
   case measure => omega
   case rel => exact ⟨A5, c5, acc ++ [y], r.tail.tail, by go_num, by simp, by simpa using HO5.out, HS5.out, HB5.out, HR1, by simp; omega, by omega⟩
end Go.Proofs.YtbdabjhankgcmaaGreatDoor
