/- Walks: streams: End, Held, Push, of the program and of the reference. (By program: sb_gen.py.) -/
import Derived.Test.YtbdabjhankgcmaaGreatDoorSb
import Derived.Test.YtbdabjhankgcmaaGreatDoorGy
import Derived.Test.YtbdabjhankgcmaaGreatDoorKd
import Derived.Test.YtbdabjhankgcmaaGreatDoorUe
import Derived.Test.YtbdabjhankgcmaaGreatDoorGx
import Derived.Deep.RegionLaw
namespace Go.Proofs.YtbdabjhankgcmaaGreatDoor
open Go.RowKit
theorem Glob.sub {w w' : World} (h : Glob w) (hb : ∀ p v, w.cell? p = some v → w'.cell? p = some v) : Glob w' := by
 obtain ⟨A, n, c, h0, h1⟩ := h
 exact ⟨A, n, c, hb _ _ h0, h1.sub hb⟩
theorem TblS.sub {w w' : World} {t : TV} {T : Tbl} (h : TblS w t T) (hb : ∀ p v, w.cell? p = some v → w'.cell? p = some v) : TblS w' t T :=
 ⟨h.cat.sub hb, h.cls.sub hb, h.joi.sub hb, h.bid.sub hb, h.scr.sub hb, h.sta.sub hb, h.ign.sub hb, MapS.sub h.ext hb, h.mps.sub hb, h.dec.sub hb, h.exc.sub hb, h.pro.sub hb, h.glob.sub hb⟩
structure StrP (M : List Nat) (w1 w : World) (g : Nat) (t : TV) (T : Tbl) (most : Int) (A : Option Addr) (n c : Nat) : Prop where
 tbl : TblS (hide M w1) t T
 kp : Kp M w1 w
 mem : g ∈ M
 lt : g < w1.heap.size
 cells : ∀ k : Nat, w.cell? ⟨g, k, none⟩ = (#[.slice t.s0.a t.s0.n t.s0.c, .slice t.s1.a t.s1.n t.s1.c, .slice t.s2.a t.s2.n t.s2.c, .slice t.s3.a t.s3.n t.s3.c, .slice t.s4.a t.s4.n t.s4.c, .slice t.s5.a t.s5.n t.s5.c, .slice t.s6.a t.s6.n t.s6.c, .slice t.s7.a t.s7.n t.s7.c, .slice t.s8.a t.s8.n t.s8.c, .slice t.s9.a t.s9.n t.s9.c, .slice t.s10.a t.s10.n t.s10.c, .slice t.s11.a t.s11.n t.s11.c, .int .i64 most, .slice A n c] : Array Value)[k]?
 fr : w.frozen? ⟨g, 13, none⟩ = false
structure StrS (M : List Nat) (w1 w : World) (g : Nat) (t : TV) (T : Tbl) (most : Int) (A : Option Addr) (n c : Nat) (hs : List Int) : Prop extends StrP M w1 w g t T most A n c where
 own : OwnI w w1.heap.size A n c hs
section
variable {M : List Nat} {w1 w : World} {g : Nat} {t : TV} {T : Tbl} {most : Int} {A : Option Addr} {n c : Nat} {hs : List Int}
theorem StrS.len (h : StrS M w1 w g t T most A n c hs) : n = hs.length := by
 have := h.own.len
 simp only [List.length_map, Nat.mul_one] at this
 exact this.symm
theorem StrP.gw (h : StrP M w1 w g t T most A n c) : g < w.heap.size := Nat.lt_of_lt_of_le h.lt h.kp.size
theorem hide_up {M : List Nat} {w1 w : World} (h : Kp M w1 w) : ∀ p v, (hide M w1).cell? p = some v → w.cell? p = some v := fun p v hp =>
 hide_sub (M := M) (by rw [hide_keep' h p (World.block_lt_of_cell? _ _ hp)]; exact hp)
theorem StrP.tw (h : StrP M w1 w g t T most A n c) : TblS w t T := h.tbl.sub (hide_up h.kp)
theorem StrP.kept {N : List Nat} {w' : World} (h : StrP M w1 w g t T most A n c) (k : Kp N w w') (hN : ∀ b ∈ N, b ∈ M ∨ w1.heap.size ≤ b) (hg : g ∉ N) : StrP M w1 w' g t T most A n c :=
 ⟨h.tbl, h.kp.step k hN, h.mem, h.lt, fun j => by rw [k.cell ⟨g, j, none⟩ h.gw hg]; exact h.cells j, by rw [k.frozen ⟨g, 13, none⟩ h.gw hg]; exact h.fr⟩
theorem StrS.kept {N : List Nat} {w' : World} (h : StrS M w1 w g t T most A n c hs) (k : Kp N w w') (hN : ∀ b ∈ N, b ∈ M ∨ w1.heap.size ≤ b) (hg : g ∉ N) (hA : ∀ b, blkOf A = some b → b ∉ N) : StrS M w1 w' g t T most A n c hs :=
 ⟨h.toStrP.kept k hN hg, h.own.kp k hA⟩
theorem StrS.ext_ {w' : World} (h : StrS M w1 w g t T most A n c hs) (k : Ext w w') : StrS M w1 w' g t T most A n c hs :=
 h.kept (N := []) (Kp.ofExt k) (fun b hb => by cases hb) (by simp) (fun b _ => by simp)
theorem StrS.grow {w' : World} (h : StrS M w1 w g t T most A n c hs) (k : w.grownBy w' (blkOf A)) : StrP M w1 w' g t T most A n c :=
 h.toStrP.kept (N := (blkOf A).toList) (Kp.ofGrown k (fun b hb => by rw [hb]; simp)) (fun b hb => by rw [Option.mem_toList] at hb; exact .inr (h.own.lt b hb).1) (fun hb => by rw [Option.mem_toList] at hb; have := (h.own.lt g hb).1; have := h.lt; omega)
theorem StrP.put {B : Option Addr} {m d : Nat} {hs' : List Int} (h : StrP M w1 w g t T most A n c) (ho : OwnI w w1.heap.size B m d hs') : StrS M w1 (w.setCell ⟨g, 13, none⟩ (.slice B m d)) g t T most B m d hs' := by
 refine ⟨⟨h.tbl, h.kp.step (Kp.setCell [g] w _ _ (by simp)) (fun b hb => by rw [List.mem_singleton] at hb; subst hb; exact .inl h.mem), h.mem, h.lt, fun k => ?_, by rw [World.frozen?_setCell]; exact h.fr⟩, ?_⟩
 ·by_cases hk : k = 13
  ·subst hk
   rw [World.cell?_setCell_same _ _ _ (h.cells 13)]
   rfl
  ·rw [World.cell?_setCell_other _ _ _ _ (by intro e; injection e with _ e; exact hk e.symm), h.cells k]
   match k with
   | 0 | 1 | 2 | 3 | 4 | 5 | 6 | 7 | 8 | 9 | 10 | 11 | 12 => rfl
   | 13 => exact absurd rfl hk
   | k + 14 => rfl
 ·exact Own.kp ho (Kp.setCell [g] w _ _ (by simp)) (fun b hb => by have := (ho.lt b hb).1; have := h.lt; rw [List.mem_singleton]; omega)
def IK (w w' : World) : Prop := ∀ p x, w.cell? p = some (.int .i64 x) → w'.cell? p = some (.int .i64 x)
theorem IK.ofExt {w w' : World} (h : Ext w w') : IK w w' := fun _ _ hp => keep_cell (ext_keep h) hp
theorem IntS.ik {w w' : World} {s : SV} {l : List Int} (h : IntS w s l) (k : IK w w') : IntS w' s l :=
 ⟨h.1, fun i x hx => by obtain ⟨b, o, ha, hc⟩ := h.2 i x hx; exact ⟨b, o, ha, k _ _ hc⟩⟩
theorem IntS.none_ {w w' : World} {s : SV} {l : List Int} (h : IntS w s l) (k : l = []) : IntS w' s l := by
 subst k
 exact ⟨h.1, fun i x hx => by simp at hx⟩
theorem StrS.ik {v : Value} {w2 : World} (h : StrS M w1 w g t T most A n c hs) (hx : Ext w w2) : IK w (w2.setCell ⟨g, 13, none⟩ v) := fun p x hp => by
 have h2 := keep_cell (ext_keep hx) hp
 by_cases hpe : p = ⟨g, 13, none⟩
 ·subst hpe
  rw [h.cells 13] at hp
  cases hp
 ·rw [World.cell?_setCell_other _ _ _ _ (fun e => hpe e.symm)]
  exact h2
structure StrK (g : Nat) (A A' : Option Addr) (w w' : World) : Prop where
 kp : Kp (g :: (blkOf A).toList) w w'
 at_ : ∀ b, blkOf A' = some b → blkOf A = some b ∨ w.heap.size ≤ b
end
theorem own_one2 (w : World) (a : Int) : OwnI (w.alloc (.cells #[.int .i64 a] 3)) w.heap.size (some ⟨w.heap.size, 0, none⟩) 1 1 [a] :=
 World.ownsRow_lit w #[.int .i64 a] 1 (Nat.le_refl _) (by simp [maxLen]) rfl
def pshB (T : Tbl) (x : Int) : Bool := scalarB x && bndB T x
def pshO (T : Tbl) (hs : List Int) (x : Int) : List Int := if bndB T x = true then nfcRes T hs else []
def pshE (T : Tbl) (most : Int) (hs : List Int) (x : Int) : Int := if scalarB x = false then 3 else if bndB T x = true then 0 else if most ≤ (hs.length : Int) then 7 else 0
def pshH (T : Tbl) (most : Int) (hs : List Int) (x : Int) : List Int := if scalarB x = false then hs else if bndB T x = true then [x] else if most ≤ (hs.length : Int) then hs else hs ++ [x]
theorem bnd_scal {T : Tbl} {x : Int} (h : scalarB x = false) : bndB T x = false := bnd_no (by rw [h]; rfl)
set_option maxHeartbeats 1600000 in
set_option maxRecDepth 100000 in
theorem held_spec {M : List Nat} {w1 w : World} {g : Nat} {t : TV} {T : Tbl} {most : Int} {A : Option Addr} {n c : Nat} {hs : List Int} (h : StrS M w1 w g t T most A n c hs) :
  Calls Tryz.prog 30 #[.pointer (some ⟨g, 0, none⟩)] w fun e w' => e = .returned (.int .i64 (hs.length : Int)) ∧ w = w' := by
 have hn := h.len
 subst hn
 have hc := h.cells 13
 simp at hc
 clear h
 go_enter Tryz.func30, Tryz.ntmps30
 go_wp2_with fail
 go_ret
 exact ⟨rfl, rfl⟩
set_option maxHeartbeats 6400000 in
set_option maxRecDepth 100000 in
theorem end_own {M : List Nat} {w1 w : World} {g : Nat} {t : TV} {T : Tbl} {most : Int} {A : Option Addr} {n c : Nat} {hs : List Int} (h : StrS M w1 w g t T most A n c hs) :
  Calls Tryz.prog 32 #[.pointer (some ⟨g, 0, none⟩)] w fun e w' => ∃ B m d, e = .returned (.slice B m d) ∧ IntS w' ⟨B, m, d⟩ (nfcRes T hs) ∧ StrS M w1 w' g t T most none 0 0 [] ∧ IK w w' ∧ Kp [g] w w' ∧ ∀ b, blkOf B = some b → w.heap.size ≤ b := by
 have H := Lib.hid h
 have hc := h.cells
 clear h
 go_enter Tryz.func32, Tryz.ntmps32
 go_wp2_with fail
 go_region_law ((go_simp; go_at_call 17; refine (nfc_own T t hs A n c _ (H.out.tw.ext_ (Ext.refl _).drew_) (IntS.ext (OwnI.ints H.out.own) (Ext.refl _).drew_)).mono ?_; rintro e w2 ⟨B, m, d, rfl, hb2, hi2, hf⟩; have HB2 : Hid (Ext w w2) := Lib.hid ((Ext.refl _).drew_.trans' hb2); have HI2 := Lib.hid hi2; have HF := Lib.hid hf; clear hf; have H2 := Lib.hid (H.out.ext_ HB2.out); have hc2 := H2.out.cells; have hf2 := H2.out.fr; clear hb2 hi2))
 all_goals
  have hc13 := hc2 13
  simp at hc13
  go_wp2_with fail
  go_ret
  have hik := H.out.ik (v := .slice none 0 0) HB2.out
  exact ⟨B, m, d, rfl, HI2.out.ik (H2.out.ik (Ext.refl _)), H2.out.toStrP.put (Own.nil_ _ _ _ _), hik, (Kp.ofExt HB2.out).trans (Kp.setCell [g] w2 _ _ (by simp)), HF.out⟩
theorem end_spec {M : List Nat} {w1 w : World} {g : Nat} {t : TV} {T : Tbl} {most : Int} {A : Option Addr} {n c : Nat} {hs : List Int} (h : StrS M w1 w g t T most A n c hs) :
  Calls Tryz.prog 32 #[.pointer (some ⟨g, 0, none⟩)] w fun e w' => ∃ B m d, e = .returned (.slice B m d) ∧ IntS w' ⟨B, m, d⟩ (nfcRes T hs) ∧ StrS M w1 w' g t T most none 0 0 [] ∧ IK w w' ∧ Kp [g] w w' :=
 (end_own h).mono fun _ _ ⟨B, m, d, h1, h2, h3, h4, h5, _⟩ => ⟨B, m, d, h1, h2, h3, h4, h5⟩
set_option maxHeartbeats 6400000 in
set_option maxRecDepth 100000 in
theorem push_own {M : List Nat} {w1 w : World} {g : Nat} {t : TV} {T : Tbl} {most : Int} {A : Option Addr} {n c : Nat} {hs : List Int} (h : StrS M w1 w g t T most A n c hs) (hl : hs.length ≤ 1000000) (x : Int) :
  Calls Tryz.prog 28 #[.pointer (some ⟨g, 0, none⟩), .int .i64 x] w fun e w' => ∃ B m d A' n' c', e = .returned (.tuple #[.slice B m d, .int .i64 (pshE T most hs x)]) ∧ IntS w' ⟨B, m, d⟩ (pshO T hs x) ∧
   StrS M w1 w' g t T most A' n' c' (pshH T most hs x) ∧ StrK g A A' w w' ∧ (pshO T hs x = [] ∨ IK w w') ∧ ∀ b, blkOf B = some b → w.heap.size ≤ b := by
 have H := Lib.hid h
 have HL := Lib.hid hl
 have hn := h.len
 subst hn
 clear hl
 cases hs0 : scalarB x
 ·have HE : Hid (pshE T most hs x = 3) := Lib.hid (by rw [pshE, if_pos hs0])
  have HO : Hid (pshO T hs x = []) := Lib.hid (by rw [pshO, bnd_scal hs0]; rfl)
  have HH : Hid (pshH T most hs x = hs) := Lib.hid (by rw [pshH, if_pos hs0])
  have HU := Lib.hid ((utfLen_eq_zero x).2 hs0)
  clear hs0 h
  go_enter Tryz.func28, Tryz.ntmps28
  go_wp2_with (go_at_call 71; refine (length_spec _ _).mono ?_; rintro e w' ⟨rfl, rfl⟩; rw [HU.out])
  go_ret2
  exact ⟨none, 0, 0, A, _, c, by rw [HE.out]; rfl, by rw [HO.out]; exact IntS.nil_ _, by rw [HH.out]; exact H.out, ⟨Kp.refl _ _, fun b hb => .inl hb⟩, .inl HO.out, fun b hb => by cases hb⟩
 ·have hsf : scalarB x ≠ false := by rw [hs0]; simp
  have hu : (utfLen x == 0) = false := by rw [beq_eq_false_iff_ne]; intro h'; exact hsf ((utfLen_eq_zero x).1 h')
  have hc := h.cells
  clear h
  cases hb0 : bndB T x
  ·have HO : Hid (pshO T hs x = []) := Lib.hid (by rw [pshO, hb0]; rfl)
   by_cases hm : most ≤ (hs.length : Int)
   ·have HE : Hid (pshE T most hs x = 7) := Lib.hid (by rw [pshE, if_neg hsf, hb0, if_neg (by simp), if_pos hm])
    have HH : Hid (pshH T most hs x = hs) := Lib.hid (by rw [pshH, if_neg hsf, hb0, if_neg (by simp), if_pos hm])
    have hd : decide (most ≤ (hs.length : Int)) = true := decide_eq_true hm
    have HB0 := Lib.hid hb0
    clear hs0 hsf hb0
    go_enter Tryz.func28, Tryz.ntmps28
    go_wp2_with (first
     | (go_at_call 71; refine (length_spec _ _).mono ?_; rintro e w' ⟨rfl, rfl⟩)
     | (go_at_call 25; refine (bnd_spec T t x _ H.out.tw).mono ?_; rintro e w2 ⟨rfl, hb2⟩; rw [HB0.out]; have HB2 : Hid (Ext w w2) := Lib.hid hb2; have H2 := Lib.hid (H.out.ext_ hb2); have rC : ∀ yy : ExtW w2, ∀ k : Nat, yy.w.cell? ⟨g, k, none⟩ = (#[.slice t.s0.a t.s0.n t.s0.c, .slice t.s1.a t.s1.n t.s1.c, .slice t.s2.a t.s2.n t.s2.c, .slice t.s3.a t.s3.n t.s3.c, .slice t.s4.a t.s4.n t.s4.c, .slice t.s5.a t.s5.n t.s5.c, .slice t.s6.a t.s6.n t.s6.c, .slice t.s7.a t.s7.n t.s7.c, .slice t.s8.a t.s8.n t.s8.c, .slice t.s9.a t.s9.n t.s9.c, .slice t.s10.a t.s10.n t.s10.c, .slice t.s11.a t.s11.n t.s11.c, .int .i64 most, .slice A hs.length c] : Array Value)[k]? := fun yy => (H2.out.ext_ yy.h).cells; clear hb2 hc))
    refine region_ext (by kernel_rfl) (by kernel_rfl) ?_
    repeat (go_big_quiet_step (fail))
    refine wpQuiet_nil ?_
    rintro _ ⟨yy, rfl⟩
    have HX := Lib.hid (HB2.out.trans' yy.h)
    clear rC
    go_wp2_with fail
    go_ret2
    exact ⟨none, 0, 0, A, _, c, by rw [HE.out]; rfl, by rw [HO.out]; exact IntS.nil_ _, by rw [HH.out]; exact H.out.ext_ HX.out, ⟨Kp.ofExt HX.out, fun b hb => .inl hb⟩, .inl HO.out, fun b hb => by cases hb⟩
   ·have HE : Hid (pshE T most hs x = 0) := Lib.hid (by rw [pshE, if_neg hsf, hb0, if_neg (by simp), if_neg hm])
    have HH : Hid (pshH T most hs x = hs ++ [x]) := Lib.hid (by rw [pshH, if_neg hsf, hb0, if_neg (by simp), if_neg hm])
    have hd : decide (most ≤ (hs.length : Int)) = false := decide_eq_false hm
    have HB0 := Lib.hid hb0
    clear hs0 hsf hb0
    go_enter Tryz.func28, Tryz.ntmps28
    go_wp2_with (first
     | (go_at_call 71; refine (length_spec _ _).mono ?_; rintro e w' ⟨rfl, rfl⟩)
     | (go_at_call 25; refine (bnd_spec T t x _ H.out.tw).mono ?_; rintro e w2 ⟨rfl, hb2⟩; rw [HB0.out]; have HB2 : Hid (Ext w w2) := Lib.hid hb2; have H2 := Lib.hid (H.out.ext_ hb2); have rC : ∀ yy : ExtW w2, ∀ k : Nat, yy.w.cell? ⟨g, k, none⟩ = (#[.slice t.s0.a t.s0.n t.s0.c, .slice t.s1.a t.s1.n t.s1.c, .slice t.s2.a t.s2.n t.s2.c, .slice t.s3.a t.s3.n t.s3.c, .slice t.s4.a t.s4.n t.s4.c, .slice t.s5.a t.s5.n t.s5.c, .slice t.s6.a t.s6.n t.s6.c, .slice t.s7.a t.s7.n t.s7.c, .slice t.s8.a t.s8.n t.s8.c, .slice t.s9.a t.s9.n t.s9.c, .slice t.s10.a t.s10.n t.s10.c, .slice t.s11.a t.s11.n t.s11.c, .int .i64 most, .slice A hs.length c] : Array Value)[k]? := fun yy => (H2.out.ext_ yy.h).cells; clear hb2 hc))
    refine region_ext (by kernel_rfl) (by kernel_rfl) ?_
    repeat (go_big_quiet_step (fail))
    refine wpQuiet_nil ?_
    rintro _ ⟨yy, rfl⟩
    obtain ⟨w3, hw3⟩ : ∃ w3, w3 = yy.w := ⟨_, rfl⟩
    have HX : Hid (Ext w w3) := Lib.hid (by rw [hw3]; exact HB2.out.trans' yy.h)
    rw [← hw3]
    clear rC hw3
    have H3 := Lib.hid (H.out.ext_ HX.out)
    have hc3 := H3.out.cells
    have hx4 : Ext w3 (w3.alloc (.cells #[.int .i64 x] 3)) := (Ext.refl _).alloc_ _
    obtain ⟨A5, c5, w5, hrun, hown5, hgr5, hat5⟩ := append_ints (Own.ext H3.out.own hx4) (one_int w3 x) (by have := HL.out; omega) (by have := H3.out.kp.size; simp; omega)
    have H5 := Lib.hid ((H3.out.ext_ hx4).grow hgr5)
    have hc5 := H5.out.cells 13
    have hf5 := H5.out.fr
    simp at hc5
    have HO5 := Lib.hid hown5
    have HG5 := Lib.hid hgr5
    have HX4 := Lib.hid (HX.out.trans' hx4)
    have HA5 : Hid (∀ b, blkOf A5 = some b → blkOf A = some b ∨ w.heap.size ≤ b) := Lib.hid (fun b hb => by
     rcases hat5 with h | h
     ·exact .inl (by rw [← h]; exact hb)
     ·rw [h] at hb; injection hb with hb; rw [← hb]; exact .inr HX4.out.b.size)
    clear hown5 hgr5 hat5 hx4
    go_wp2_with (at_builtin; refine wpList_run_append rfl _ _ _ rfl _ _ rfl rfl _ _ hrun ?_)
    go_ret2
    exact ⟨none, 0, 0, A5, _, c5, by rw [HE.out]; rfl, by rw [HO.out]; exact IntS.nil_ _, by rw [HH.out]; exact H5.out.put HO5.out, ⟨((Kp.ofExt HX4.out).trans (Kp.ofGrown HG5.out (fun b hb => by rw [hb]; simp))).trans (Kp.setCell _ _ _ _ (by simp)), HA5.out⟩, .inl HO.out, fun b hb => by cases hb⟩
  ·have HE : Hid (pshE T most hs x = 0) := Lib.hid (by rw [pshE, if_neg hsf, hb0, if_pos rfl])
   have HO : Hid (pshO T hs x = nfcRes T hs) := Lib.hid (by rw [pshO, hb0]; rfl)
   have HH : Hid (pshH T most hs x = [x]) := Lib.hid (by rw [pshH, if_neg hsf, hb0, if_pos rfl])
   have HB0 := Lib.hid hb0
   clear hs0 hsf hb0
   go_enter Tryz.func28, Tryz.ntmps28
   go_wp2_with (first
    | (go_at_call 71; refine (length_spec _ _).mono ?_; rintro e w' ⟨rfl, rfl⟩)
    | (go_at_call 25; refine (bnd_spec T t x _ H.out.tw).mono ?_; rintro e w2 ⟨rfl, hb2⟩; rw [HB0.out]; have HB2 : Hid (Ext w w2) := Lib.hid hb2; have H2 := Lib.hid (H.out.ext_ hb2); have rC : ∀ yy : ExtW w2, ∀ k : Nat, yy.w.cell? ⟨g, k, none⟩ = (#[.slice t.s0.a t.s0.n t.s0.c, .slice t.s1.a t.s1.n t.s1.c, .slice t.s2.a t.s2.n t.s2.c, .slice t.s3.a t.s3.n t.s3.c, .slice t.s4.a t.s4.n t.s4.c, .slice t.s5.a t.s5.n t.s5.c, .slice t.s6.a t.s6.n t.s6.c, .slice t.s7.a t.s7.n t.s7.c, .slice t.s8.a t.s8.n t.s8.c, .slice t.s9.a t.s9.n t.s9.c, .slice t.s10.a t.s10.n t.s10.c, .slice t.s11.a t.s11.n t.s11.c, .int .i64 most, .slice A hs.length c] : Array Value)[k]? := fun yy => (H2.out.ext_ yy.h).cells; clear hb2 hc)
    | (go_at_call 32; refine (end_own H2.out).mono ?_; rintro e w3 ⟨B, m, d, rfl, hi3, h3, hk3, hp3, hf⟩; have HF3 := Lib.hid hf; have HI3 := Lib.hid hi3; have H3 := Lib.hid h3; have HK3 := Lib.hid hk3; have HP3 := Lib.hid hp3; have H4 := Lib.hid (h3.ext_ ((Ext.refl _).alloc_ (.cells #[.int .i64 x] 3))); have hc4 := H4.out.cells; have hf4 := H4.out.fr; clear hi3 h3 hk3 hp3 rC))
   go_ret2
   have hz := H4.out.kp.size
   have hz3 := H3.out.kp.size
   have h34 : Ext w3 (w3.alloc (.cells #[.int .i64 x] 3)) := (Ext.refl _).alloc_ _
   refine ⟨B, m, d, some ⟨w3.heap.size, 0, none⟩, 1, 1, by rw [HE.out]; rfl, by rw [HO.out]; exact HI3.out.ik (H3.out.ik h34), by rw [HH.out]; exact H4.out.toStrP.put (Own.lower (own_one2 w3 x) hz3), ⟨?_, fun b hb => ?_⟩, .inr ?_, fun b hb => Nat.le_trans HB2.out.b.size (HF3.out b hb)⟩
   ·exact ((Kp.ofExt (HB2.out)).trans ((HP3.out.mono (fun b hb => by rw [List.mem_singleton] at hb; subst hb; exact .inl (by simp))).trans (Kp.ofExt h34))).trans (Kp.setCell _ _ _ _ (by simp))
   ·injection hb with hb
    rw [← hb]
    exact .inr (Nat.le_trans HB2.out.b.size HP3.out.size)
   ·exact fun p v hp => (H3.out.ik h34) p v (HK3.out p v (keep_cell (ext_keep HB2.out) hp))
theorem push_spec {M : List Nat} {w1 w : World} {g : Nat} {t : TV} {T : Tbl} {most : Int} {A : Option Addr} {n c : Nat} {hs : List Int} (h : StrS M w1 w g t T most A n c hs) (hl : hs.length ≤ 1000000) (x : Int) :
  Calls Tryz.prog 28 #[.pointer (some ⟨g, 0, none⟩), .int .i64 x] w fun e w' => ∃ B m d A' n' c', e = .returned (.tuple #[.slice B m d, .int .i64 (pshE T most hs x)]) ∧ IntS w' ⟨B, m, d⟩ (pshO T hs x) ∧
   StrS M w1 w' g t T most A' n' c' (pshH T most hs x) ∧ StrK g A A' w w' ∧ (pshO T hs x = [] ∨ IK w w') :=
 (push_own h hl x).mono fun _ _ ⟨B, m, d, A', n', c', h1, h2, h3, h4, h5, _⟩ => ⟨B, m, d, A', n', c', h1, h2, h3, h4, h5⟩
set_option maxHeartbeats 1600000 in
set_option maxRecDepth 100000 in
theorem rheld_spec {M : List Nat} {w1 w : World} {g : Nat} {t : TV} {T : Tbl} {most : Int} {A : Option Addr} {n c : Nat} {hs : List Int} (h : StrS M w1 w g t T most A n c hs) :
  Calls Tryz.prog 31 #[.pointer (some ⟨g, 0, none⟩)] w fun e w' => e = .returned (.int .i64 (hs.length : Int)) ∧ w = w' := by
 have hn := h.len
 subst hn
 have hc := h.cells 13
 simp at hc
 clear h
 go_enter Tryz.func31, Tryz.ntmps31
 go_wp2_with fail
 go_ret
 exact ⟨rfl, rfl⟩
set_option maxHeartbeats 6400000 in
set_option maxRecDepth 100000 in
theorem rend_spec {M : List Nat} {w1 w : World} {g : Nat} {t : TV} {T : Tbl} {most : Int} {A : Option Addr} {n c : Nat} {hs : List Int} (h : StrS M w1 w g t T most A n c hs) :
  Calls Tryz.prog 33 #[.pointer (some ⟨g, 0, none⟩)] w fun e w' => ∃ B m d, e = .returned (.slice B m d) ∧ IntS w' ⟨B, m, d⟩ (nfcRes T hs) ∧ StrS M w1 w' g t T most none 0 0 [] ∧ IK w w' ∧ Kp [g] w w' := by
 have H := Lib.hid h
 have hc := h.cells
 clear h
 go_enter Tryz.func33, Tryz.ntmps33
 go_wp2_with fail
 go_region_law ((go_simp; go_at_call 34; refine (rnfc_spec T t hs A n c _ (H.out.tw.ext_ (Ext.refl _).drew_) (IntS.ext (OwnI.ints H.out.own) (Ext.refl _).drew_)).mono ?_; rintro e w2 ⟨B, m, d, rfl, hb2, hi2⟩; have HB2 : Hid (Ext w w2) := Lib.hid ((Ext.refl _).drew_.trans' hb2); have HI2 := Lib.hid hi2; have H2 := Lib.hid (H.out.ext_ HB2.out); have hc2 := H2.out.cells; have hf2 := H2.out.fr; clear hb2 hi2))
 all_goals
  have hc13 := hc2 13
  simp at hc13
  go_wp2_with fail
  go_ret
  have hik := H.out.ik (v := .slice none 0 0) HB2.out
  exact ⟨B, m, d, rfl, HI2.out.ik (H2.out.ik (Ext.refl _)), H2.out.toStrP.put (Own.nil_ _ _ _ _), hik, (Kp.ofExt HB2.out).trans (Kp.setCell [g] w2 _ _ (by simp))⟩
set_option maxHeartbeats 6400000 in
set_option maxRecDepth 100000 in
theorem rpush_spec {M : List Nat} {w1 w : World} {g : Nat} {t : TV} {T : Tbl} {most : Int} {A : Option Addr} {n c : Nat} {hs : List Int} (h : StrS M w1 w g t T most A n c hs) (hl : hs.length ≤ 1000000) (x : Int) :
  Calls Tryz.prog 29 #[.pointer (some ⟨g, 0, none⟩), .int .i64 x] w fun e w' => ∃ B m d A' n' c', e = .returned (.tuple #[.slice B m d, .int .i64 (pshE T most hs x)]) ∧ IntS w' ⟨B, m, d⟩ (pshO T hs x) ∧
   StrS M w1 w' g t T most A' n' c' (pshH T most hs x) ∧ StrK g A A' w w' ∧ (pshO T hs x = [] ∨ IK w w') := by
 have H := Lib.hid h
 have HL := Lib.hid hl
 have hn := h.len
 subst hn
 clear hl
 cases hs0 : scalarB x
 ·have HE : Hid (pshE T most hs x = 3) := Lib.hid (by rw [pshE, if_pos hs0])
  have HO : Hid (pshO T hs x = []) := Lib.hid (by rw [pshO, bnd_scal hs0]; rfl)
  have HH : Hid (pshH T most hs x = hs) := Lib.hid (by rw [pshH, if_pos hs0])
  have HU := Lib.hid hs0
  clear hs0 h
  go_enter Tryz.func29, Tryz.ntmps29
  go_wp2_with (go_at_call 53; refine (rscalar_spec _ _).mono ?_; rintro e w' ⟨rfl, rfl⟩; rw [HU.out])
  go_ret2
  exact ⟨none, 0, 0, A, _, c, by rw [HE.out]; rfl, by rw [HO.out]; exact IntS.nil_ _, by rw [HH.out]; exact H.out, ⟨Kp.refl _ _, fun b hb => .inl hb⟩, .inl HO.out⟩
 ·have hsf : scalarB x ≠ false := by rw [hs0]; simp
  have HS0 := Lib.hid hs0
  have hc := h.cells
  clear h
  cases hb0 : bndB T x
  ·have HO : Hid (pshO T hs x = []) := Lib.hid (by rw [pshO, hb0]; rfl)
   by_cases hm : most ≤ (hs.length : Int)
   ·have HE : Hid (pshE T most hs x = 7) := Lib.hid (by rw [pshE, if_neg hsf, hb0, if_neg (by simp), if_pos hm])
    have HH : Hid (pshH T most hs x = hs) := Lib.hid (by rw [pshH, if_neg hsf, hb0, if_neg (by simp), if_pos hm])
    have hd : decide (most ≤ (hs.length : Int)) = true := decide_eq_true hm
    have HB0 := Lib.hid hb0
    clear hs0 hsf hb0
    go_enter Tryz.func29, Tryz.ntmps29
    go_wp2_with (first
     | (go_at_call 53; refine (rscalar_spec _ _).mono ?_; rintro e w' ⟨rfl, rfl⟩; rw [HS0.out])
     | (go_at_call 26; refine (rbnd_spec T t x _ H.out.tw).mono ?_; rintro e w2 ⟨rfl, hb2⟩; rw [HB0.out]; have HB2 : Hid (Ext w w2) := Lib.hid hb2; have H2 := Lib.hid (H.out.ext_ hb2); have rC : ∀ yy : ExtW w2, ∀ k : Nat, yy.w.cell? ⟨g, k, none⟩ = (#[.slice t.s0.a t.s0.n t.s0.c, .slice t.s1.a t.s1.n t.s1.c, .slice t.s2.a t.s2.n t.s2.c, .slice t.s3.a t.s3.n t.s3.c, .slice t.s4.a t.s4.n t.s4.c, .slice t.s5.a t.s5.n t.s5.c, .slice t.s6.a t.s6.n t.s6.c, .slice t.s7.a t.s7.n t.s7.c, .slice t.s8.a t.s8.n t.s8.c, .slice t.s9.a t.s9.n t.s9.c, .slice t.s10.a t.s10.n t.s10.c, .slice t.s11.a t.s11.n t.s11.c, .int .i64 most, .slice A hs.length c] : Array Value)[k]? := fun yy => (H2.out.ext_ yy.h).cells; clear hb2 hc))
    refine region_ext (by kernel_rfl) (by kernel_rfl) ?_
    repeat (go_big_quiet_step (fail))
    refine wpQuiet_nil ?_
    rintro _ ⟨yy, rfl⟩
    have HX := Lib.hid (HB2.out.trans' yy.h)
    clear rC
    go_wp2_with fail
    go_ret2
    exact ⟨none, 0, 0, A, _, c, by rw [HE.out]; rfl, by rw [HO.out]; exact IntS.nil_ _, by rw [HH.out]; exact H.out.ext_ HX.out, ⟨Kp.ofExt HX.out, fun b hb => .inl hb⟩, .inl HO.out⟩
   ·have HE : Hid (pshE T most hs x = 0) := Lib.hid (by rw [pshE, if_neg hsf, hb0, if_neg (by simp), if_neg hm])
    have HH : Hid (pshH T most hs x = hs ++ [x]) := Lib.hid (by rw [pshH, if_neg hsf, hb0, if_neg (by simp), if_neg hm])
    have hd : decide (most ≤ (hs.length : Int)) = false := decide_eq_false hm
    have HB0 := Lib.hid hb0
    clear hs0 hsf hb0
    go_enter Tryz.func29, Tryz.ntmps29
    go_wp2_with (first
     | (go_at_call 53; refine (rscalar_spec _ _).mono ?_; rintro e w' ⟨rfl, rfl⟩; rw [HS0.out])
     | (go_at_call 26; refine (rbnd_spec T t x _ H.out.tw).mono ?_; rintro e w2 ⟨rfl, hb2⟩; rw [HB0.out]; have HB2 : Hid (Ext w w2) := Lib.hid hb2; have H2 := Lib.hid (H.out.ext_ hb2); have rC : ∀ yy : ExtW w2, ∀ k : Nat, yy.w.cell? ⟨g, k, none⟩ = (#[.slice t.s0.a t.s0.n t.s0.c, .slice t.s1.a t.s1.n t.s1.c, .slice t.s2.a t.s2.n t.s2.c, .slice t.s3.a t.s3.n t.s3.c, .slice t.s4.a t.s4.n t.s4.c, .slice t.s5.a t.s5.n t.s5.c, .slice t.s6.a t.s6.n t.s6.c, .slice t.s7.a t.s7.n t.s7.c, .slice t.s8.a t.s8.n t.s8.c, .slice t.s9.a t.s9.n t.s9.c, .slice t.s10.a t.s10.n t.s10.c, .slice t.s11.a t.s11.n t.s11.c, .int .i64 most, .slice A hs.length c] : Array Value)[k]? := fun yy => (H2.out.ext_ yy.h).cells; clear hb2 hc))
    refine region_ext (by kernel_rfl) (by kernel_rfl) ?_
    repeat (go_big_quiet_step (fail))
    refine wpQuiet_nil ?_
    rintro _ ⟨yy, rfl⟩
    obtain ⟨w3, hw3⟩ : ∃ w3, w3 = yy.w := ⟨_, rfl⟩
    have HX : Hid (Ext w w3) := Lib.hid (by rw [hw3]; exact HB2.out.trans' yy.h)
    rw [← hw3]
    clear rC hw3
    have H3 := Lib.hid (H.out.ext_ HX.out)
    have hc3 := H3.out.cells
    have hx4 : Ext w3 (w3.alloc (.cells #[.int .i64 x] 3)) := (Ext.refl _).alloc_ _
    obtain ⟨A5, c5, w5, hrun, hown5, hgr5, hat5⟩ := append_ints (Own.ext H3.out.own hx4) (one_int w3 x) (by have := HL.out; omega) (by have := H3.out.kp.size; simp; omega)
    have H5 := Lib.hid ((H3.out.ext_ hx4).grow hgr5)
    have hc5 := H5.out.cells 13
    have hf5 := H5.out.fr
    simp at hc5
    have HO5 := Lib.hid hown5
    have HG5 := Lib.hid hgr5
    have HX4 := Lib.hid (HX.out.trans' hx4)
    have HA5 : Hid (∀ b, blkOf A5 = some b → blkOf A = some b ∨ w.heap.size ≤ b) := Lib.hid (fun b hb => by
     rcases hat5 with h | h
     ·exact .inl (by rw [← h]; exact hb)
     ·rw [h] at hb; injection hb with hb; rw [← hb]; exact .inr HX4.out.b.size)
    clear hown5 hgr5 hat5 hx4
    go_wp2_with (at_builtin; refine wpList_run_append rfl _ _ _ rfl _ _ rfl rfl _ _ hrun ?_)
    go_ret2
    exact ⟨none, 0, 0, A5, _, c5, by rw [HE.out]; rfl, by rw [HO.out]; exact IntS.nil_ _, by rw [HH.out]; exact H5.out.put HO5.out, ⟨((Kp.ofExt HX4.out).trans (Kp.ofGrown HG5.out (fun b hb => by rw [hb]; simp))).trans (Kp.setCell _ _ _ _ (by simp)), HA5.out⟩, .inl HO.out⟩
  ·have HE : Hid (pshE T most hs x = 0) := Lib.hid (by rw [pshE, if_neg hsf, hb0, if_pos rfl])
   have HO : Hid (pshO T hs x = nfcRes T hs) := Lib.hid (by rw [pshO, hb0]; rfl)
   have HH : Hid (pshH T most hs x = [x]) := Lib.hid (by rw [pshH, if_neg hsf, hb0, if_pos rfl])
   have HB0 := Lib.hid hb0
   clear hs0 hsf hb0
   go_enter Tryz.func29, Tryz.ntmps29
   go_wp2_with (first
    | (go_at_call 53; refine (rscalar_spec _ _).mono ?_; rintro e w' ⟨rfl, rfl⟩; rw [HS0.out])
    | (go_at_call 26; refine (rbnd_spec T t x _ H.out.tw).mono ?_; rintro e w2 ⟨rfl, hb2⟩; rw [HB0.out]; have HB2 : Hid (Ext w w2) := Lib.hid hb2; have H2 := Lib.hid (H.out.ext_ hb2); have rC : ∀ yy : ExtW w2, ∀ k : Nat, yy.w.cell? ⟨g, k, none⟩ = (#[.slice t.s0.a t.s0.n t.s0.c, .slice t.s1.a t.s1.n t.s1.c, .slice t.s2.a t.s2.n t.s2.c, .slice t.s3.a t.s3.n t.s3.c, .slice t.s4.a t.s4.n t.s4.c, .slice t.s5.a t.s5.n t.s5.c, .slice t.s6.a t.s6.n t.s6.c, .slice t.s7.a t.s7.n t.s7.c, .slice t.s8.a t.s8.n t.s8.c, .slice t.s9.a t.s9.n t.s9.c, .slice t.s10.a t.s10.n t.s10.c, .slice t.s11.a t.s11.n t.s11.c, .int .i64 most, .slice A hs.length c] : Array Value)[k]? := fun yy => (H2.out.ext_ yy.h).cells; clear hb2 hc)
    | (go_at_call 33; refine (rend_spec H2.out).mono ?_; rintro e w3 ⟨B, m, d, rfl, hi3, h3, hk3, hp3⟩; have HI3 := Lib.hid hi3; have H3 := Lib.hid h3; have HK3 := Lib.hid hk3; have HP3 := Lib.hid hp3; have H4 := Lib.hid (h3.ext_ ((Ext.refl _).alloc_ (.cells #[.int .i64 x] 3))); have hc4 := H4.out.cells; have hf4 := H4.out.fr; clear hi3 h3 hk3 hp3 rC))
   go_ret2
   have hz := H4.out.kp.size
   have hz3 := H3.out.kp.size
   have h34 : Ext w3 (w3.alloc (.cells #[.int .i64 x] 3)) := (Ext.refl _).alloc_ _
   refine ⟨B, m, d, some ⟨w3.heap.size, 0, none⟩, 1, 1, by rw [HE.out]; rfl, by rw [HO.out]; exact HI3.out.ik (H3.out.ik h34), by rw [HH.out]; exact H4.out.toStrP.put (Own.lower (own_one2 w3 x) hz3), ⟨?_, fun b hb => ?_⟩, .inr ?_⟩
   ·exact ((Kp.ofExt (HB2.out)).trans ((HP3.out.mono (fun b hb => by rw [List.mem_singleton] at hb; subst hb; exact .inl (by simp))).trans (Kp.ofExt h34))).trans (Kp.setCell _ _ _ _ (by simp))
   ·injection hb with hb
    rw [← hb]
    exact .inr (Nat.le_trans HB2.out.b.size HP3.out.size)
   ·exact fun p v hp => (H3.out.ik h34) p v (HK3.out p v (keep_cell (ext_keep HB2.out) hp))
end Go.Proofs.YtbdabjhankgcmaaGreatDoor
