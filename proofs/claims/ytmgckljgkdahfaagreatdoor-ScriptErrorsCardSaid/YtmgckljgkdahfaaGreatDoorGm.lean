/- Walk: namedesklaw19.scripts. (By program: ys_gen.py.). Walk: namedesklaw19.awake. -/
import Derived.Test.YtmgckljgkdahfaaGreatDoorIp
import Derived.Deep.LoopGhost
import Derived.Test.YtmgckljgkdahfaaGreatDoorYc
import Derived.Test.YtmgckljgkdahfaaGreatDoorKb
import Derived.Test.YtmgckljgkdahfaaGreatDoorOh
namespace Go.Proofs.YtmgckljgkdahfaaGreatDoor
open Go.RowKit

def scrsL : List Int := [97, 49, 945, 1072, 1488, 1576, 12539, 19968, 44032, 4352, 769, 2381, 7680, 1280]
def scrsGo : Nat → List Int → List Int
  | 0, _ => []
  | n + 1, r => scrsL.getD (nxV 14 r).toNat 0 :: scrsGo n r.tail
/-- The code points that scripts makes of a list of choices. -/
def scriptsL (m : List Int) : List Int := scrsGo (nxV 6 m).toNat m.tail
theorem scrsGo_len : ∀ n r, (scrsGo n r).length = n
  | 0, _ => rfl
  | n + 1, r => by rw [scrsGo, List.length_cons, scrsGo_len n r.tail]
theorem scrsGo_mem : ∀ n r, ∀ x ∈ scrsGo n r, x ∈ scrsL
  | 0, _, x, h => by cases h
  | n + 1, r, x, h => by
    rw [scrsGo, List.mem_cons] at h
    rcases h with rfl | h
    · have := nxV_bd r (n := 14) (by decide)
      rw [getD_lt _ _ _ (by simp [scrsL]; omega)]
      exact List.getElem_mem _
    · exact scrsGo_mem n _ x h
theorem scriptsL_len (m : List Int) : (scriptsL m).length < 6 := by
  have := nxV_bd m (n := 6) (by decide)
  rw [scriptsL, scrsGo_len]
  omega

def ScLoop (w : World) (g : Nat) (L : List Int) (gh : Nat) (s4 s5 : Value) (wx : World) : Prop :=
  ∃ (A : Option Addr) (c : Nat) (acc r : List Int), s5 = .int .i64 gh ∧ s4 = .slice A acc.length c ∧ OwnI wx (g + 1) A acc.length c acc ∧ Src w wx g r ∧ Ext w wx ∧ Hid (L = acc ++ scrsGo gh r) ∧ acc.length + gh < 6 ∧ g < wx.heap.size

set_option maxHeartbeats 1600000 in
set_option maxRecDepth 100000 in
theorem lscripts_spec (m : List Int) (A : Option Addr) (n c : Nat) (w : World) (h : IntS w ⟨A, n, c⟩ m) :
    Calls Tryz.prog 20 #[.slice A n c] w (IntsPost w (scriptsL m)) := by
  have HI := Lib.hid h
  clear h
  go_enter Tryz.func20, Tryz.ntmps20
  go_wp2_with fail
  refine (from_spec m A n c w HI.out).mono ?_
  rintro e w1 ⟨rfl, hs1, hb1⟩
  have hg1 : w.heap.size < w1.heap.size := by
    obtain ⟨_, _, _, _, _, _, _, h2, _⟩ := hs1
    exact World.block_lt_of_cell? w1 _ h2
  generalize hg : w.heap.size = g at *
  have HG := Lib.hid hg
  clear hg
  go_wp2_with fail
  refine (next_spec w w1 g m 6 (by decide) (by decide) hs1 hb1).mono ?_
  rintro e w2 ⟨rfl, hs2, hk2, hb2⟩
  have hz2 := hk2.size
  have hv9 := nxV_bd m (n := 6) (by decide)
  obtain ⟨N, hN⟩ : ∃ N : Nat, nxV 6 m = N := ⟨(nxV 6 m).toNat, by omega⟩
  have HJ : Hid (scriptsL m = scrsGo N m.tail) := Lib.hid (by rw [scriptsL, hN, Int.toNat_natCast])
  have hN9 : N < 6 := by omega
  rw [hN]
  have HS2 := Lib.hid hs2
  have HB2 := Lib.hid hb2
  clear hs1 hb1 hs2 hk2 hb2 hN hv9
  go_wp2_with fail
  go_loopg [4, 5] N (fun gh s4 s5 wx => ScLoop w g (scriptsL m) gh s4 s5 wx)
  case atStart => exact ⟨none, 0, [], m.tail, rfl, rfl, Own.nil_ _ _ _ _, HS2.out, HB2.out, Lib.hid (by rw [HJ.out]; rfl), by simp; omega, by omega⟩
  case round =>
    obtain ⟨A4, c4, acc, r, rfl, rfl, hown, hsr, hbr, HR, hla, hgr⟩ := hrel
    have HO := Lib.hid hown
    have HSR := Lib.hid hsr
    have HBR := Lib.hid hbr
    clear hown hsr hbr HS2 HB2
    rcases Nat.eq_zero_or_pos gk with h0 | hpos
    · subst h0
      have HF : Hid (scriptsL m = acc) := Lib.hid (by rw [HR.out]; simp [scrsGo])
      go_wp2_with fail
      go_ret
      exact ⟨A4, _, c4, rfl, by rw [HF.out]; exact OwnI.ints HO.out, HBR.out⟩
    · obtain ⟨gk', rfl⟩ : ∃ g', gk = g' + 1 := ⟨gk - 1, by omega⟩
      have hd : decide ((0 : Int) < ((gk' + 1 : Nat) : Int)) = true := by simp
      have hv := nxV_bd r (n := 14) (by decide)
      obtain ⟨v, hvv⟩ : ∃ v : Nat, nxV 14 r = v := ⟨(nxV 14 r).toNat, by omega⟩
      have hvl : v < 14 := by omega
      obtain ⟨y, hy⟩ : ∃ y, scrsL.getD v 0 = y := ⟨_, rfl⟩
      have HR1 : Hid (scriptsL m = (acc ++ [y]) ++ scrsGo gk' r.tail) := Lib.hid (by rw [HR.out, scrsGo, hvv, Int.toNat_natCast, hy]; simp)
      have HV := Lib.hid hvv
      have hx1 : Ext wr (wr.alloc (.cells #[.int .i64 97, .int .i64 49, .int .i64 945, .int .i64 1072, .int .i64 1488, .int .i64 1576, .int .i64 12539, .int .i64 19968, .int .i64 44032, .int .i64 4352, .int .i64 769, .int .i64 2381, .int .i64 7680, .int .i64 1280] 3)) := (Ext.refl _).alloc_ _
      have hcell : (wr.alloc (.cells #[.int .i64 97, .int .i64 49, .int .i64 945, .int .i64 1072, .int .i64 1488, .int .i64 1576, .int .i64 12539, .int .i64 19968, .int .i64 44032, .int .i64 4352, .int .i64 769, .int .i64 2381, .int .i64 7680, .int .i64 1280] 3)).cell? ⟨wr.heap.size, v, none⟩ = some (.int .i64 y) := by
        rw [World.cell?_alloc_new, ← hy]
        match v, hvl with
        | 0, _ | 1, _ | 2, _ | 3, _ | 4, _ | 5, _ | 6, _ | 7, _ | 8, _ | 9, _ | 10, _ | 11, _ | 12, _ | 13, _ => rfl
      have HX1 := Lib.hid hx1
      have HCE := Lib.hid hcell
      clear HR hv hvv hy hx1 hcell
      go_wp2_with fail
      refine (next_spec w _ g r 14 (by decide) (by decide) (HSR.out.kp (M := []) (Kp.ofExt HX1.out) (by simp)) (HBR.out.trans' HX1.out)).mono ?_
      rintro e w3 ⟨rfl, hs3, hk3, hb3⟩
      rw [HV.out]
      have hz3 : wr.heap.size + 1 ≤ w3.heap.size := by have h' := hk3.size; simpa using h'
      have hc3 : w3.cell? ⟨wr.heap.size, v, none⟩ = some (.int .i64 y) := (hk3.cell ⟨wr.heap.size, v, none⟩ (by simp) (by simp; omega)).trans HCE.out
      have HO3 : Hid (OwnI w3 (g + 1) A4 acc.length c4 acc) := Lib.hid (Own.kp (Own.ext HO.out HX1.out) hk3 (fun b hb => by have := (Own.lt HO.out b hb).1; simp; omega))
      have hi0 : (0 : Int) ≤ (v : Int) := Int.natCast_nonneg _
      have hi1 : (v : Int) < 14 := by omega
      have hx4 : Ext w3 (w3.alloc (.cells #[.int .i64 y] 3)) := (Ext.refl _).alloc_ _
      obtain ⟨A5, c5, w5, hrun, hown5, hgr5, hat5⟩ := append_ints (Own.ext HO3.out hx4) (one_int w3 y) (by omega) (by simp; omega)
      have HO5 := Lib.hid hown5
      have hk45 : Kp (blkOf A4).toList (w3.alloc (.cells #[.int .i64 y] 3)) w5 := Kp.ofGrown hgr5 (by intro b hb; simp [hb])
      have HS5 : Hid (Src w w5 g r.tail) := Lib.hid ((hs3.kp (M := []) (Kp.ofExt hx4) (by simp)).kp hk45 (by simp only [Option.mem_toList]; intro e; have := (Own.lt HO3.out g e).1; omega))
      have HB5 : Hid (Ext w w5) := Lib.hid (ext_of_grown (hb3.trans' hx4) hgr5 (fun k hk => by have := (Own.lt HO3.out k hk).1; have := HG.out; omega))
      have hz5 : w3.heap.size ≤ w5.heap.size := Nat.le_trans hx4.b.size hgr5.size
      clear hs3 hk3 hb3 hown5 hgr5 hat5 hk45 hx4
      go_wp2_with (at_builtin; refine wpList_run_append rfl _ _ _ rfl _ _ rfl rfl _ _ hrun ?_)
      go_roundg gk'
      case measure => omega
      case rel => exact ⟨A5, c5, acc ++ [y], r.tail, by go_num, by simp, by simpa using HO5.out, HS5.out, HB5.out, HR1, by simp; omega, by omega⟩
end Go.Proofs.YtmgckljgkdahfaaGreatDoor
namespace Go.Proofs.YtmgckljgkdahfaaGreatDoor
open Go.RowKit

def awT : Tbl := ⟨[], [], [], [], [⟨1072, 1072, 5⟩], [], [], [], [], [], [], []⟩
abbrev awV (g : Nat) : TV := ⟨nilSV, nilSV, nilSV, nilSV, ⟨some ⟨g, 0, none⟩, 1, 1⟩, nilSV, nilSV, nilSV, nilSV, nilSV, nilSV, nilSV⟩
theorem aw_tbl {w : World} {g : Nat} (hg : Glob w) (h : SpanS w ⟨some ⟨g, 0, none⟩, 1, 1⟩ [⟨1072, 1072, 5⟩]) : TblS w (awV g) awT :=
  ⟨SpanS.nil_ _, SpanS.nil_ _, SpanS.nil_ _, SpanS.nil_ _, h, SpanS.nil_ _, SpanS.nil_ _, MapS.nil_ _, MapS.nil_ _, MapS.nil_ _, IntS.nil_ _, MapS.nil_ _, hg⟩
theorem aw1 : levelT awT [97, 98, 99] = 1 ∧ ordErr awT [97, 98, 99] = 0 := by decide +kernel
theorem aw2 : levelT awT [97, 1072] = 5 ∧ ordErr awT [97, 1072] = 0 := by decide +kernel
theorem aw3 : levelT awT [1072] = 2 ∧ ordErr awT [1072] = 0 := by decide +kernel

set_option maxHeartbeats 800000 in
set_option maxRecDepth 100000 in
theorem s19awake_spec (w : World) (hg : Glob w) : Calls Tryz.prog 25 #[] w fun e w' => e = .returned (.bool true) ∧ Ext w w' := by
  obtain ⟨w2, hw2⟩ : ∃ w2, w2 = (w.alloc (.cells #[.int .i64 1072, .int .i64 1072, .int .i64 5] 54)).alloc (.cells #[.slice none 0 0, .slice none 0 0, .slice none 0 0, .slice none 0 0, .slice (some ⟨w.heap.size, 0, none⟩) 1 1, .slice none 0 0, .slice none 0 0, .slice none 0 0, .slice none 0 0, .slice none 0 0, .slice none 0 0, .slice none 0 0] 26) := ⟨_, rfl⟩
  have hx : Ext w w2 := by rw [hw2]; exact ((Ext.refl _).alloc_ _).alloc_ _
  have HX := Lib.hid hx
  have hz2 : w2.heap.size = w.heap.size + 1 + 1 := by rw [hw2]; simp
  have HT : Hid (∀ w', Ext w2 w' → TblS w' (awV w.heap.size) awT) := Lib.hid (fun w' hw' => aw_tbl (hg.ext (hx.trans' hw')) (by
    have h1 : Ext (w.alloc (.cells #[.int .i64 1072, .int .i64 1072, .int .i64 5] 54)) w2 := by rw [hw2]; exact (Ext.refl _).alloc_ _
    exact (one_span w 1072 1072 5 _).ext (h1.trans' hw')))
  have HRT : Hid (∀ w', Ext w2 w' → ∀ k : Nat, w'.cell? ⟨w.heap.size + 1, k, none⟩ = (awV w.heap.size).v.cells[k]?) := Lib.hid (fun w' hw' k => by
    have h := box_at (w := w.alloc (.cells #[.int .i64 1072, .int .i64 1072, .int .i64 5] 54)) (by rw [hw2] at hw'; exact hw') k
    rw [show (w.alloc (.cells #[.int .i64 1072, .int .i64 1072, .int .i64 5] 54)).heap.size = w.heap.size + 1 from by simp] at h
    exact h)
  have rT2 := HRT.out w2 (Ext.refl _)
  clear hx hg
  go_enter Tryz.func25, Tryz.ntmps25
  go_wp2_with fail
  rw [← hw2]
  clear hw2
  refine (slevel_spec (awV w.heap.size) awT [97, 98, 99] _ 3 3 _ (HT.out _ ((Ext.refl _).alloc_ _)) (ints_at hz2 [97, 98, 99] _ (by simp [maxLen]))).mono ?_
  rintro e w3 ⟨rfl, hb3⟩
  rw [aw1.1, aw1.2]
  have HB3 := Lib.hid (((Ext.refl w2).alloc_ _).trans' hb3)
  have rT3 := HRT.out w3 HB3.out
  clear hb3 rT2
  go_wp2_with fail
  refine (slevel_spec (awV w.heap.size) awT [97, 1072] _ 2 2 _ (HT.out _ (HB3.out.alloc_ _)) (ints_at rfl [97, 1072] _ (by simp [maxLen]))).mono ?_
  rintro e w4 ⟨rfl, hb4⟩
  rw [aw2.1, aw2.2]
  have HB4 := Lib.hid ((HB3.out.alloc_ _).trans' hb4)
  have rT4 := HRT.out w4 HB4.out
  clear hb4 rT3
  go_wp2_with fail
  refine (slevel_spec (awV w.heap.size) awT [1072] _ 1 1 _ (HT.out _ (HB4.out.alloc_ _)) (ints_at rfl [1072] _ (by simp [maxLen]))).mono ?_
  rintro e w5 ⟨rfl, hb5⟩
  rw [aw3.1, aw3.2]
  have HB5 := Lib.hid ((HB4.out.alloc_ _).trans' hb5)
  clear hb5 rT4
  go_wp2_with fail
  go_ret
  exact ⟨rfl, HX.out.trans' HB5.out⟩
end Go.Proofs.YtmgckljgkdahfaaGreatDoor
