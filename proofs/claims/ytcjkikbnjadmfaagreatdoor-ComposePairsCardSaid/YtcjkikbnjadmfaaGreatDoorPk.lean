/- The law ComposePairs. -/
import Derived.Test.YtcjkikbnjadmfaaGreatDoorGw
import Derived.Test.YtcjkikbnjadmfaaGreatDoorGo
import Derived.Test.YtcjkikbnjadmfaaGreatDoorGx
import Derived.Test.YtcjkikbnjadmfaaGreatDoorUg
namespace Go.Proofs.YtcjkikbnjadmfaaGreatDoor
open Go.RowKit

def PkLoop (w5 : World) (n : Nat) (gh : Nat) (s : Value) (wx : World) : Prop :=
  ∃ k : Nat, k + gh = n ∧ s = .int .i64 k ∧ Hid (Ext w5 wx)
set_option maxHeartbeats 6400000 in
set_option maxRecDepth 100000 in
theorem composePairs_spec (l m : List Int) (a b : Int) (A : Option Addr) (n c : Nat) (A2 : Option Addr) (n2 c2 : Nat) (w : World) (h : IntS w ⟨A, n, c⟩ l) (h2 : IntS w ⟨A2, n2, c2⟩ m) (hg : Glob w) :
    Calls Tryz.prog 8 #[.slice A n c, .slice A2 n2 c2, .int .i64 a, .int .i64 b] w fun e w' => e = .returned (.bool true) ∧ Ext w w' := by
  have HG := Lib.hid hg
  have HM := Lib.hid h2
  have HL := Lib.hid h
  clear hg h h2
  go_enter Tryz.func8, Tryz.ntmps8
  go_wp2_with fail
  refine Calls.mono (tables_spec l A n c w HL.out HG.out) ?_
  rintro e w1 ⟨t, rfl, ht, hb1⟩
  have hx1 : Ext w1 (w1.alloc (.cells t.v.cells 26)) := (Ext.refl _).alloc_ _
  have HT := Lib.hid (ht.ext_ hx1)
  have HB01 := Lib.hid (hb1.trans' hx1)
  clear ht hb1 hx1
  generalize madeT l = T at *
  go_wp2_with fail
  refine Calls.mono (dense_own m A2 n2 c2 _ (HM.out.ext HB01.out)) ?_
  rintro e w2 ⟨A3, n3, c3, rfl, ho3, hb2⟩
  have hn3 := ho3.len
  have hlm := denseL_len m
  rw [List.length_map] at hn3
  have hx3 : Ext w2 (w2.alloc (.cells #[.int .i64 a, .int .i64 b] 3)) := (Ext.refl _).alloc_ _
  have hz2 := hb2.b.size
  simp only [World.size_alloc] at hz2
  obtain ⟨A5, c5, w5, hrun, hown5, hgr5, _⟩ := append_ints (Own.ext ho3 hx3) (ints_new w2 [a, b] 3 (by simp [maxLen])) (by simp; omega) (by simp; omega)
  have HB5 : Hid (Ext _ w5) := Lib.hid (ext_of_grown (hb2.trans' hx3) hgr5 (fun k hk => by have := (Own.lt ho3 k hk).1; omega))
  have HI5 := Lib.hid (OwnI.ints hown5)
  have hll : (denseL m ++ [a, b]).length ≤ 100 := by simp; omega
  obtain ⟨L, hL⟩ : ∃ L, denseL m ++ [a, b] = L := ⟨_, rfl⟩
  rw [hL] at HI5 hll
  have hn5 := HI5.out.len.1
  have HRT : Hid (∀ w', Ext w5 w' → ∀ k : Nat, w'.cell? ⟨w1.heap.size, k, none⟩ = t.v.cells[k]?) := Lib.hid (fun w' h => box_at (HB5.out.trans' h))
  have HCS : Hid (∀ (x : Int) (w' : World), Ext w5 w' → Calls Tryz.prog 24 #[t.v, .int .i64 x] w' fun e w'' => e = .returned (.bool (secC T x)) ∧ Ext w' w'') := Lib.hid (fun x w' h => csecC_spec t T x w' (HT.out.ext_ (HB5.out.trans' h)))
  have HRS : Hid (∀ (x : Int) (w' : World), Ext w5 w' → Calls Tryz.prog 25 #[t.v, .int .i64 x] w' fun e w'' => e = .returned (.bool (secC T x)) ∧ Ext w' w'') := Lib.hid (fun x w' h => rsecC_spec t T x w' (HT.out.ext_ (HB5.out.trans' h)))
  have HCP : Hid (∀ (x y : Int) (w' : World), Ext w5 w' → Calls Tryz.prog 26 #[t.v, .int .i64 x, .int .i64 y] w' fun e w'' => e = .returned (.tuple #[.int .i64 (pairC T x y).1, .bool (pairC T x y).2]) ∧ Ext w' w'') := Lib.hid (fun x y w' h => cpairC_spec t T x y w' (HT.out.ext_ (HB5.out.trans' h)))
  have HRP : Hid (∀ (x y : Int) (w' : World), Ext w5 w' → Calls Tryz.prog 27 #[t.v, .int .i64 x, .int .i64 y] w' fun e w'' => e = .returned (.tuple #[.int .i64 (pairC T x y).1, .bool (pairC T x y).2]) ∧ Ext w' w'') := Lib.hid (fun x y w' h => rpairC_spec t T x y w' (HT.out.ext_ (HB5.out.trans' h)))
  have HB := Lib.hid (HB01.out.trans' HB5.out)
  rw [hn5] at hrun HI5
  clear hn5 hL hown5 hgr5 hx3 hz2 hlm hn3 ho3 hb2 HB5 HB01 HT
  go_wp2_with (at_builtin; refine wpList_run_append rfl _ _ _ rfl _ _ rfl rfl _ _ hrun ?_)
  clear hrun
  go_loopg [29] L.length (fun gh s29 wx => PkLoop w5 L.length gh s29 wx)
  case atStart => exact ⟨0, by omega, rfl, Lib.hid (Ext.refl _)⟩
  case round =>
    obtain ⟨k, hkg, rfl, HBR⟩ := hrel
    by_cases hlt : k < L.length
    · obtain ⟨gk', rfl⟩ : ∃ g', gk = g' + 1 := ⟨gk - 1, by omega⟩
      obtain ⟨b5, o5, hA, hcx⟩ := (HI5.out.ext HBR.out).at_ hlt
      subst hA
      generalize L[k] = x at *
      have hk0 : (0 : Int) ≤ (k : Int) := Int.natCast_nonneg _
      have hk1 : (k : Int) < (L.length : Int) := by omega
      have CS : Hid (∀ (w' : World), Ext wr w' → Calls Tryz.prog 24 #[t.v, .int .i64 x] w' fun e w'' => e = .returned (.bool (secC T x)) ∧ Ext w' w'') := Lib.hid (fun w' h => HCS.out x w' (HBR.out.trans' h))
      have RS : Hid (∀ (w' : World), Ext wr w' → Calls Tryz.prog 25 #[t.v, .int .i64 x] w' fun e w'' => e = .returned (.bool (secC T x)) ∧ Ext w' w'') := Lib.hid (fun w' h => HRS.out x w' (HBR.out.trans' h))
      generalize secC T x = s at CS RS
      have es : (s != s) = false := by simp
      have rT : ∀ yy : ExtW wr, ∀ k : Nat, yy.w.cell? ⟨w1.heap.size, k, none⟩ = t.v.cells[k]? := fun yy => HRT.out _ (HBR.out.trans' yy.h)
      go_wp2_with fail
      refine region_ext (by kernel_rfl) (by kernel_rfl) ?_
      repeat (go_big_quiet_step (first
        | (go_at_call 24; with_reducible exact quiet_ext (CS.out _ (ExtW.h _)))
        | (go_at_call 25; with_reducible exact quiet_ext (RS.out _ (ExtW.h _)))))
      refine wpQuiet_nil ?_
      rintro _ ⟨yw, rfl⟩
      clear rT hcx
      obtain ⟨wo, hwo⟩ : ∃ wo : World, wo = yw.w := ⟨_, rfl⟩
      have HBO : Hid (Ext w5 wo) := Lib.hid (by rw [hwo]; exact HBR.out.trans' yw.h)
      rw [← hwo]
      clear hwo CS RS HBR
      go_wp2_with fail
      go_loopg [42] L.length (fun gh s42 wx => PkLoop w5 L.length gh s42 wx)
      case atStart => exact ⟨0, by omega, rfl, HBO⟩
      case round =>
        obtain ⟨q, hqg, rfl, HBQ⟩ := hrel
        by_cases hlq : q < L.length
        · obtain ⟨gq', rfl⟩ : ∃ g', gk = g' + 1 := ⟨gk - 1, by omega⟩
          obtain ⟨b6, o6, hA6, hcy⟩ := (HI5.out.ext HBQ.out).at_ hlq
          injection hA6 with hA6
          injection hA6 with e1 e2
          subst e1 e2
          generalize L[q] = y at *
          have hq0 : (0 : Int) ≤ (q : Int) := Int.natCast_nonneg _
          have hq1 : (q : Int) < (L.length : Int) := by omega
          have CP := Lib.hid (HCP.out x y)
          have RP := Lib.hid (HRP.out x y)
          generalize (pairC T x y).1 = z at CP RP
          generalize (pairC T x y).2 = p at CP RP
          have ez : (z != z) = false := by simp
          have ep : (p != p) = false := by simp
          have rT : ∀ k : Nat, wr.cell? ⟨w1.heap.size, k, none⟩ = t.v.cells[k]? := HRT.out _ HBQ.out
          go_wp2_with fail
          refine (CP.out _ HBQ.out).mono ?_
          rintro e w6 ⟨rfl, hb6⟩
          have HB6 := Lib.hid (HBQ.out.trans' hb6)
          have rT6 : ∀ k : Nat, w6.cell? ⟨w1.heap.size, k, none⟩ = t.v.cells[k]? := HRT.out _ HB6.out
          clear rT hb6 hcy
          go_wp2_with fail
          refine (RP.out _ HB6.out).mono ?_
          rintro e w7 ⟨rfl, hb7⟩
          have HB7 := Lib.hid (HB6.out.trans' hb7)
          clear rT6 hb7
          go_wp2_with fail
          go_roundg gq'
          case measure => omega
          case rel => exact ⟨q + 1, by omega, by go_num, HB7⟩
        · go_wp2_with fail
          go_roundg gk'
          case measure => omega
          case rel => exact ⟨k + 1, by omega, by go_num, HBQ⟩
    · go_wp2_with fail
      refine (c8awake_spec wr (HG.out.ext (HB.out.trans' HBR.out))).mono ?_
      rintro e w6 ⟨rfl, hb6⟩
      have hb := HB.out.trans' (HBR.out.trans' hb6)
      clear hb6
      go_wp2_with fail
      go_ret
      exact ⟨rfl, hb⟩
end Go.Proofs.YtcjkikbnjadmfaaGreatDoor
