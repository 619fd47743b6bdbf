/- Walks: namedesklaw15.special, awake. -/
import Derived.Test.YtmgckljgkdahfaaGreatDoorPc
import Derived.Test.YtmgckljgkdahfaaGreatDoorGg
namespace Go.Proofs.YtmgckljgkdahfaaGreatDoor
open Go.RowKit

def SLoop (w : World) (g : Nat) (L : List Int) (gh : Nat) (s4 s5 : Value) (wx : World) : Prop :=
  ∃ (A : Option Addr) (c : Nat) (acc r : List Int), s5 = .int .i64 gh ∧ s4 = .slice A acc.length c ∧ OwnI wx (g + 1) A acc.length c acc ∧ Src w wx g r ∧ Ext w wx ∧ Hid (L = acc ++ spcGo gh r) ∧ acc.length + gh < 8 ∧ g < wx.heap.size

abbrev spcA (a b : Int) : Array Value := #[.int .i64 183, .int .i64 885, .int .i64 1523, .int .i64 1524, .int .i64 12539, .int .i64 (1632 + a), .int .i64 (1776 + b), .int .i64 108, .int .i64 945, .int .i64 1488, .int .i64 19968, .int .i64 97]

set_option maxHeartbeats 1600000 in
set_option maxRecDepth 100000 in
theorem special_spec (m : List Int) (A : Option Addr) (n c : Nat) (w : World) (h : IntS w ⟨A, n, c⟩ m) :
    Calls Tryz.prog 13 #[.slice A n c] w (IntsPost w (specialL m)) := by
  have HI := Lib.hid h
  clear h
  go_enter Tryz.func13, Tryz.ntmps13
  go_wp2_with fail
  refine (from_spec m A n c w HI.out).mono ?_
  rintro e w1 ⟨rfl, hs1, hb1⟩
  have hg1 : w.heap.size < w1.heap.size := by
    obtain ⟨_, _, _, _, _, _, _, h2, _⟩ := hs1
    exact World.block_lt_of_cell? w1 _ h2
  generalize hg : w.heap.size = g at *
  have HG := Lib.hid hg
  clear hg
  go_wp2_with fail
  refine (next_spec w w1 g m 8 (by decide) (by decide) hs1 hb1).mono ?_
  rintro e w2 ⟨rfl, hs2, hk2, hb2⟩
  have hz2 := hk2.size
  have hv9 := nxV_bd m (n := 8) (by decide)
  obtain ⟨N, hN⟩ : ∃ N : Nat, nxV 8 m = N := ⟨(nxV 8 m).toNat, by omega⟩
  have HJ : Hid (specialL m = spcGo N m.tail) := Lib.hid (by rw [specialL, hN, Int.toNat_natCast])
  have hN9 : N < 8 := by omega
  rw [hN]
  have HS2 := Lib.hid hs2
  have HB2 := Lib.hid hb2
  clear hs1 hb1 hs2 hk2 hb2 hN hv9
  go_wp2_with fail
  go_loopg [4, 5] N (fun gh s4 s5 wx => SLoop w g (specialL m) gh s4 s5 wx)
  case atStart => exact ⟨none, 0, [], m.tail, rfl, rfl, Own.nil_ _ _ _ _, HS2.out, HB2.out, Lib.hid (by rw [HJ.out]; rfl), by simp; omega, by omega⟩
  case round =>
    obtain ⟨A4, c4, acc, r, rfl, rfl, hown, hsr, hbr, HR, hla, hgr⟩ := hrel
    have HO := Lib.hid hown
    have HSR := Lib.hid hsr
    have HBR := Lib.hid hbr
    clear hown hsr hbr HS2 HB2
    rcases Nat.eq_zero_or_pos gk with h0 | hpos
    · subst h0
      have HF : Hid (specialL m = acc) := Lib.hid (by rw [HR.out]; simp [spcGo])
      go_wp2_with fail
      go_ret
      exact ⟨A4, _, c4, rfl, by rw [HF.out]; exact OwnI.ints HO.out, HBR.out⟩
    · obtain ⟨gk', rfl⟩ : ∃ g', gk = g' + 1 := ⟨gk - 1, by omega⟩
      have hd : decide ((0 : Int) < ((gk' + 1 : Nat) : Int)) = true := by simp
      have ha := nxV_bd r (n := 11) (by decide)
      have hb := nxV_bd r.tail (n := 11) (by decide)
      have hv := nxV_bd r.tail.tail (n := 12) (by decide)
      obtain ⟨v, hvv⟩ : ∃ v : Nat, nxV 12 r.tail.tail = v := ⟨(nxV 12 r.tail.tail).toNat, by omega⟩
      have hvl : v < 12 := by omega
      obtain ⟨a, haa⟩ : ∃ a, nxV 11 r = a := ⟨_, rfl⟩
      obtain ⟨b, hbb⟩ : ∃ b, nxV 11 r.tail = b := ⟨_, rfl⟩
      rw [haa] at ha
      rw [hbb] at hb
      obtain ⟨y, hy⟩ : ∃ y, (spcL a b).getD v 0 = y := ⟨_, rfl⟩
      have HR1 : Hid (specialL m = (acc ++ [y]) ++ spcGo gk' r.tail.tail.tail) := Lib.hid (by rw [HR.out, spcGo, spcOne, hvv, haa, hbb, Int.toNat_natCast, hy]; simp)
      have HV := Lib.hid hvv
      have HAA := Lib.hid haa
      have HBB := Lib.hid hbb
      have HY := Lib.hid hy
      obtain ⟨ha0, ha1⟩ := ha
      obtain ⟨hb0, hb1⟩ := hb
      clear HR hv hvv hy haa hbb
      go_wp2_with fail
      refine (next_spec w wr g r 11 (by decide) (by decide) HSR.out HBR.out).mono ?_
      rintro e w3 ⟨rfl, hs3, hk3, hb3⟩
      rw [HAA.out]
      have HO3 : Hid (OwnI w3 (g + 1) A4 acc.length c4 acc) := Lib.hid (Own.kp HO.out hk3 (fun b hb => by have := (Own.lt HO.out b hb).1; simp; omega))
      have hz3 : g < w3.heap.size := Nat.lt_of_lt_of_le hgr hk3.size
      have HS3 := Lib.hid hs3
      have HB3 := Lib.hid hb3
      clear hs3 hk3 hb3
      go_wp2_with fail
      refine (next_spec w w3 g r.tail 11 (by decide) (by decide) HS3.out HB3.out).mono ?_
      rintro e w4 ⟨rfl, hs4, hk4, hb4⟩
      rw [HBB.out]
      have HO4 : Hid (OwnI w4 (g + 1) A4 acc.length c4 acc) := Lib.hid (Own.kp HO3.out hk4 (fun b hb => by have := (Own.lt HO3.out b hb).1; simp; omega))
      have hz4 : g < w4.heap.size := Nat.lt_of_lt_of_le hz3 hk4.size
      have HS4 := Lib.hid hs4
      have HB4 := Lib.hid hb4
      have hx1 : Ext w4 (w4.alloc (.cells (spcA a b) 3)) := (Ext.refl _).alloc_ _
      have hcell : (w4.alloc (.cells (spcA a b) 3)).cell? ⟨w4.heap.size, v, none⟩ = some (.int .i64 y) := by
        rw [World.cell?_alloc_new, ← HY.out]
        match v, hvl with
        | 0, _ | 1, _ | 2, _ | 3, _ | 4, _ | 5, _ | 6, _ | 7, _ | 8, _ | 9, _ | 10, _ | 11, _ => rfl
      have HX1 := Lib.hid hx1
      have HCE := Lib.hid hcell
      clear hs4 hk4 hb4 hx1 hcell
      go_wp2_with fail
      refine (next_spec w _ g r.tail.tail 12 (by decide) (by decide) (HS4.out.kp (M := []) (Kp.ofExt HX1.out) (by simp)) (HB4.out.trans' HX1.out)).mono ?_
      rintro e w6 ⟨rfl, hs6, hk6, hb6⟩
      rw [HV.out]
      have hz6 : w4.heap.size + 1 ≤ w6.heap.size := by have h' := hk6.size; simpa using h'
      have hc6 : w6.cell? ⟨w4.heap.size, v, none⟩ = some (.int .i64 y) := (hk6.cell ⟨w4.heap.size, v, none⟩ (by simp) (by simp; omega)).trans HCE.out
      have HO6 : Hid (OwnI w6 (g + 1) A4 acc.length c4 acc) := Lib.hid (Own.kp (Own.ext HO4.out HX1.out) hk6 (fun b hb => by have := (Own.lt HO4.out b hb).1; simp; omega))
      have hi0 : (0 : Int) ≤ (v : Int) := Int.natCast_nonneg _
      have hi1 : (v : Int) < 12 := by omega
      have hx4 : Ext w6 (w6.alloc (.cells #[.int .i64 y] 3)) := (Ext.refl _).alloc_ _
      obtain ⟨A5, c5, w5, hrun, hown5, hgr5, hat5⟩ := append_ints (Own.ext HO6.out hx4) (one_int w6 y) (by omega) (by simp; omega)
      have HO5 := Lib.hid hown5
      have hk45 : Kp (blkOf A4).toList (w6.alloc (.cells #[.int .i64 y] 3)) w5 := Kp.ofGrown hgr5 (by intro b hb; simp [hb])
      have HS5 : Hid (Src w w5 g r.tail.tail.tail) := Lib.hid ((hs6.kp (M := []) (Kp.ofExt hx4) (by simp)).kp hk45 (by simp only [Option.mem_toList]; intro e; have := (Own.lt HO6.out g e).1; omega))
      have HB5 : Hid (Ext w w5) := Lib.hid (ext_of_grown (hb6.trans' hx4) hgr5 (fun k hk => by have := (Own.lt HO6.out k hk).1; have := HG.out; omega))
      have hz5 : w6.heap.size ≤ w5.heap.size := Nat.le_trans hx4.b.size hgr5.size
      clear hs6 hk6 hb6 hown5 hgr5 hat5 hk45 hx4
      go_wp2_with (at_builtin; refine wpList_run_append rfl _ _ _ rfl _ _ rfl rfl _ _ hrun ?_)
      go_roundg gk'
      case measure => omega
      case rel => exact ⟨A5, c5, acc ++ [y], r.tail.tail.tail, by go_num, by simp, by simpa using HO5.out, HS5.out, HB5.out, HR1, by simp; omega, by omega⟩

/-! awake -/
def emptyT : Tbl := ⟨[], [], [], [], [], [], [], [], [], [], [], []⟩
def nilTV : TV := ⟨nilSV, nilSV, nilSV, nilSV, nilSV, nilSV, nilSV, nilSV, nilSV, nilSV, nilSV, nilSV⟩
theorem empty_tbl {w : World} (h : Glob w) : TblS w nilTV emptyT :=
  ⟨SpanS.nil_ _, SpanS.nil_ _, SpanS.nil_ _, SpanS.nil_ _, SpanS.nil_ _, SpanS.nil_ _, SpanS.nil_ _, MapS.nil_ _, MapS.nil_ _, MapS.nil_ _, IntS.nil_ _, MapS.nil_ _, h⟩
theorem cx1 : ccheck emptyT [108, 183, 108] = (0, 0) := by decide +kernel
theorem cx2 : ccheck emptyT [108, 183] = (1, 18) := by decide +kernel

set_option maxHeartbeats 800000 in
set_option maxRecDepth 100000 in
theorem cawake_spec (w : World) (hg : Glob w) : Calls Tryz.prog 11 #[] w fun e w' => e = .returned (.bool true) ∧ Ext w w' := by
  have HG := Lib.hid hg
  clear hg
  have hx1 : Ext w (w.alloc (.cells #[.int .i64 108, .int .i64 183, .int .i64 108] 3)) := (Ext.refl _).alloc_ _
  go_enter Tryz.func11, Tryz.ntmps11
  go_wp2_with fail
  refine (ccheck_spec nilTV emptyT [108, 183, 108] _ 3 3 _ (empty_tbl (HG.out.ext hx1)) (ints_new w [108, 183, 108] 3 (by simp [maxLen]))).mono ?_
  rintro e w2 ⟨rfl, hb2⟩
  rw [cx1]
  have hb02 := hx1.trans' hb2
  have hx2 : Ext w2 (w2.alloc (.cells #[.int .i64 108, .int .i64 183] 3)) := (Ext.refl _).alloc_ _
  go_wp2_with fail
  refine (ccheck_spec nilTV emptyT [108, 183] _ 2 2 _ (empty_tbl (HG.out.ext (hb02.trans' hx2))) (ints_new w2 [108, 183] 3 (by simp [maxLen]))).mono ?_
  rintro e w3 ⟨rfl, hb3⟩
  rw [cx2]
  have hb03 := (hb02.trans' hx2).trans' hb3
  go_wp2_with (go_at_call 37; refine (ctxIs_spec 12539 _).mono ?_; rintro e w4 ⟨rfl, rfl⟩; rw [show ctxIs 12539 = true from rfl])
  go_ret
  exact ⟨rfl, hb03⟩
end Go.Proofs.YtmgckljgkdahfaaGreatDoor
