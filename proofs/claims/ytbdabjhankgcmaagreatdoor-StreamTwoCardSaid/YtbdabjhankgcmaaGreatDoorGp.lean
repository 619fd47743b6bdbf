/- Walk: keep.prototypes. Walk: keep.prototypes. -/
import Derived.Test.YtbdabjhankgcmaaGreatDoorKd
import Derived.Test.YtbdabjhankgcmaaGreatDoorR
import Derived.Deep.LoopGhost
import Derived.Deep.CutRange
import Derived.Deep.RegionHeld3
import Derived.Deep.RegionLaw
import Derived.Deep.DrawnRows
import Derived.Test.YtbdabjhankgcmaaGreatDoorGa
namespace Go.Proofs.YtbdabjhankgcmaaGreatDoor
open Go.RowKit
attribute [local go_sem ↓] Go.wp_at_zero Go.wp_at_succ
theorem rign_spec (t : TV) (L : List Sp) (c : Int) (w : World) (h : SpanS w t.s6 L) :
  Calls Tryz.prog 90 #[t.v, .int .i64 c] w fun e w' => e = .returned (.bool (spFind L c == 1)) ∧ Ext w w' := by
 have hx := h.ext ((Ext.refl w).alloc_ (.cells t.v.cells 26))
 go_enter Tryz.func90, Tryz.ntmps90
 go_wp2_with (go_at_call 89; refine (rvalue_spec _ _ _ L _ _ hx).mono ?_; rintro e w1 ⟨rfl, hb⟩)
 go_ret
 exact ⟨rfl, ((Ext.refl w).alloc_ _).trans' hb⟩
structure PSt (we w0 w : World) (g tb bs q : Nat) (M : List Nat) (A : Option Addr) (n c : Nat) (ign : List Sp) (P : List Mp) (r : List Int) : Prop where
 src : Src w0 w g r
 ext : Ext w0 w
 kp : Kp [g, tb] we w
 oth : ∀ k, k ≠ 11 → w.cell? ⟨tb, k, none⟩ = we.cell? ⟨tb, k, none⟩
 frz : ∀ k, w.frozen? ⟨tb, k, none⟩ = false
 v11 : w.cell? ⟨tb, 11, none⟩ = some (.slice A n c)
 o11 : OwnMp M w bs A n c P
 col : ColAt M w tb 6 ign
 lst : MapS (hide M w) ⟨some ⟨q, 0, none⟩, 5, 5⟩ protosL
 hg : g ∈ M
 ht : tb ∈ M
 h11 : ∀ b, blkOf A = some b → b ∈ M
 hM : ∀ b ∈ M, b < w.heap.size
section
variable {we w0 w w' : World} {g tb bs q n c : Nat} {M : List Nat} {A : Option Addr} {P : List Mp} {ign : List Sp} {r r' : List Int}
theorem PSt.next (h : PSt we w0 w g tb bs q M A n c ign P r) (hk : Kp [g] w w') (hs : Src w0 w' g r') (hb : Ext w0 w') (hgt : g < tb) (htb : tb < bs) : PSt we w0 w' g tb bs q M A n c ign P r' := by
 have htl := h.hM tb h.ht
 have htN : tb ∉ [g] := by simp; omega
 have hNM : ∀ b ∈ [g], b ∈ M ∨ w.heap.size ≤ b := by intro b hb; simp at hb; subst hb; exact .inl h.hg
 exact ⟨hs, hb, h.kp.via hk (fun b hb => .inl (by simp at hb; simp [hb])), fun k k1 => (hk.cell ⟨tb, k, none⟩ htl htN).trans (h.oth k k1), fun k => (hk.frozen ⟨tb, k, none⟩ htl htN).trans (h.frz k), (hk.cell ⟨tb, 11, none⟩ htl htN).trans h.v11,
  h.o11.kp hk (fun b hb => by have := (h.o11.lt b hb).1; simp; omega) (fun _ h => h) (fun _ h => .inl h) hNM, h.col.kp hk hNM htN, h.lst.keep (hide_keep' (hk.mono hNM)), h.hg, h.ht, h.h11, fun b hb => Nat.lt_of_lt_of_le (h.hM b hb) hk.size⟩
theorem PSt.ext_ (h : PSt we w0 w g tb bs q M A n c ign P r) (hx : Ext w w') (hgt : g < tb) (htb : tb < bs) : PSt we w0 w' g tb bs q M A n c ign P r :=
 h.next (Kp.ofExt hx) (h.src.kp (M := []) (Kp.ofExt hx) (by simp)) (h.ext.trans' hx) hgt htb
theorem PSt.tcell (h : PSt we w0 w g tb bs q M A n c ign P r) (hgr : w.grownBy w' (blkOf A)) (htb : tb < bs) (k : Nat) : w'.cell? ⟨tb, k, none⟩ = w.cell? ⟨tb, k, none⟩ ∧ w'.frozen? ⟨tb, k, none⟩ = false := by
 have hk : Kp (blkOf A).toList w w' := Kp.ofGrown hgr (by intro b hb; simp [hb])
 have hn : tb ∉ (blkOf A).toList := by
  simp only [Option.mem_toList]
  intro e
  have := (h.o11.lt tb e).1; omega
 exact ⟨hk.cell ⟨tb, k, none⟩ (h.hM tb h.ht) hn, (hk.frozen ⟨tb, k, none⟩ (h.hM tb h.ht) hn).trans (h.frz k)⟩
theorem PSt.push11 (h : PSt we w0 w g tb bs q M A n c ign P r) {A' : Option Addr} {n' c' : Nat} {P' : List Mp} (hown : OwnMp (w.heap.size :: M) w' bs A' n' c' P') (hgr : w.grownBy w' (blkOf A)) (hat : blkOf A' = blkOf A ∨ blkOf A' = some w.heap.size) (hgt : g < tb) (htb : tb < bs) (hwe : we.heap.size ≤ bs) (hw0 : w0.heap.size ≤ tb) :
  ∃ M', PSt we w0 (w'.setCell ⟨tb, 11, none⟩ (.slice A' n' c')) g tb bs q M' A' n' c' ign P' r := by
 have htl := h.hM tb h.ht
 have hk : Kp (blkOf A).toList w w' := Kp.ofGrown hgr (by intro b hb; simp [hb])
 have hlt := h.o11.lt
 have hmA : ∀ b, b ∈ (blkOf A).toList ↔ blkOf A = some b := by intro b; simp
 have hgA : g ∉ (blkOf A).toList := by rw [hmA]; intro hb; have := (hlt _ hb).1; omega
 have hc : ∀ k, w'.cell? ⟨tb, k, none⟩ = w.cell? ⟨tb, k, none⟩ := fun k => (h.tcell hgr htb k).1
 have hf : ∀ k, w'.frozen? ⟨tb, k, none⟩ = false := fun k => (h.tcell hgr htb k).2
 have hx : Ext w0 w' := ext_of_grown h.ext hgr (fun k hk => by have := (hlt k hk).1; omega)
 have hks : Kp [tb] w' (w'.setCell ⟨tb, 11, none⟩ (.slice A' n' c')) := Kp.setCell _ _ _ _ (by simp)
 have hk2 : Kp (tb :: (blkOf A).toList) w (w'.setCell ⟨tb, 11, none⟩ (.slice A' n' c')) := (hk.mono (fun b hb => .inl (by simp only [List.mem_cons]; exact .inr hb))).trans (hks.mono (fun b hb => .inl (by simp at hb; simp [hb])))
 obtain ⟨M', m1, m2, m3, m4, m6⟩ : ∃ M' : List Nat, (∀ b ∈ M, b ∈ M') ∧ (∀ b ∈ M', b ∈ M ∨ w.heap.size ≤ b) ∧ (∀ b, blkOf A' = some b → b ∈ M') ∧ (∀ b ∈ M', b < w'.heap.size) ∧ (∀ b ∈ M', b ∈ w.heap.size :: M) := by
  rcases hat with hat | hat
  ·exact ⟨M, fun _ h => h, fun _ h => .inl h, fun b hb => h.h11 b (by rw [← hat]; exact hb), fun b hb => Nat.lt_of_lt_of_le (h.hM b hb) hk.size, fun b hb => by simp [hb]⟩
  ·refine ⟨w.heap.size :: M, fun b hb => by simp [hb], fun b hb => ?_, fun b hb => ?_, fun b hb => ?_, fun _ h => h⟩
   ·simp at hb; rcases hb with rfl | hb
    ·exact .inr (Nat.le_refl _)
    ·exact .inl hb
   ·rw [hat] at hb; injection hb with hb; simp [hb]
   ·simp at hb; rcases hb with rfl | hb
    ·exact (hown.lt _ hat).2
    ·exact Nat.lt_of_lt_of_le (h.hM b hb) hk.size
 obtain ⟨A5, n5, c5, k1, k2, k3⟩ := h.col
 have hkM : ∀ b ∈ tb :: (blkOf A).toList, b ∈ M ∨ w.heap.size ≤ b := by
  intro b hb
  rw [List.mem_cons] at hb
  rcases hb with rfl | hb
  ·exact .inl h.ht
  ·exact .inl (h.h11 b ((hmA b).1 hb))
 refine ⟨M', ⟨h.src.kp hk2 (by simp only [List.mem_cons, not_or]; exact ⟨by omega, hgA⟩), hx.setCell_ hw0 _, h.kp.via hk2 (fun b hb => ?_), fun k k1 => ?_, fun k => ?_, ?_, ?_, ?_, h.lst.keep (hide_keep (hk2.mono hkM) m1 m2), m1 g h.hg, m1 tb h.ht, m3, fun b hb => by simpa using m4 b hb⟩⟩
 ·rw [List.mem_cons] at hb
  rcases hb with rfl | hb
  ·exact .inl (by simp)
  ·exact .inr (Nat.le_trans hwe (hlt b ((hmA b).1 hb)).1)
 ·rw [World.cell?_setCell_other _ _ _ _ (by intro e; injection e with _ e; exact k1 e.symm), hc k]
  exact h.oth k k1
 ·rw [World.frozen?_setCell]
  exact hf k
 ·exact World.cell?_setCell_same _ _ _ ((hc 11).trans h.v11)
 ·refine (hown.less m6).kp hks (fun b hb hm => ?_) (fun _ h => h) (fun _ h => .inl h) (fun b hb => ?_)
  ·simp at hm
   have := (hown.lt b hb).1
   omega
  ·simp at hb; subst hb; exact .inl (m1 b h.ht)
 ·refine ⟨A5, n5, c5, ?_, k2.keep (hide_keep (hk2.mono hkM) m1 m2), by rw [World.frozen?_setCell]; exact hf 6, k3.2.kp hk2 hkM m2⟩
  rw [World.cell?_setCell_other _ _ _ _ (by intro e; injection e with _ e; cases e), hc 6]
  exact k1
end
def protoW (w : World) : World :=
 (((((w.alloc (.cells #[.int .i64 111] 3)).alloc (.cells #[.int .i64 114, .int .i64 110] 3)).alloc (.cells #[.int .i64 97] 3)).alloc (.cells #[.int .i64 97] 3)).alloc (.cells #[.int .i64 111, .int .i64 803] 3)).alloc
  (.cells #[.int .i64 48, .slice (some ⟨w.heap.size, 0, none⟩) 1 1, .int .i64 109, .slice (some ⟨w.heap.size + 1, 0, none⟩) 2 2, .int .i64 945, .slice (some ⟨w.heap.size + 2, 0, none⟩) 1 1, .int .i64 1072, .slice (some ⟨w.heap.size + 3, 0, none⟩) 1 1, .int .i64 1632, .slice (some ⟨w.heap.size + 4, 0, none⟩) 2 2] 74)
theorem ints_at {w : World} {H : Nat} (hH : w.heap.size = H) (l : List Int) (t : TypeId) (h : l.length ≤ maxLen) : IntS (w.alloc (.cells (l.map (Value.int .i64)).toArray t)) ⟨some ⟨H, 0, none⟩, l.length, l.length⟩ l := by
 subst hH
 exact ints_new w l t h
theorem proto_lit (w : World) (M : List Nat) (hM : ∀ b ∈ M, b < w.heap.size) : MapS (hide M (protoW w)) ⟨some ⟨w.heap.size + 5, 0, none⟩, 5, 5⟩ protosL ∧ Ext w (protoW w) ∧ (protoW w).heap.size = w.heap.size + 6 := by
 obtain ⟨w1, hw1⟩ : ∃ w1, w1 = w.alloc (.cells #[.int .i64 111] 3) := ⟨_, rfl⟩
 obtain ⟨w2, hw2⟩ : ∃ w2, w2 = w1.alloc (.cells #[.int .i64 114, .int .i64 110] 3) := ⟨_, rfl⟩
 obtain ⟨w3, hw3⟩ : ∃ w3, w3 = w2.alloc (.cells #[.int .i64 97] 3) := ⟨_, rfl⟩
 obtain ⟨w4, hw4⟩ : ∃ w4, w4 = w3.alloc (.cells #[.int .i64 97] 3) := ⟨_, rfl⟩
 obtain ⟨w5, hw5⟩ : ∃ w5, w5 = w4.alloc (.cells #[.int .i64 111, .int .i64 803] 3) := ⟨_, rfl⟩
 have z1 : w1.heap.size = w.heap.size + 1 := by rw [hw1]; simp
 have z2 : w2.heap.size = w.heap.size + 2 := by rw [hw2]; simp [z1]
 have z3 : w3.heap.size = w.heap.size + 3 := by rw [hw3]; simp [z2]
 have z4 : w4.heap.size = w.heap.size + 4 := by rw [hw4]; simp [z3]
 have z5 : w5.heap.size = w.heap.size + 5 := by rw [hw5]; simp [z4]
 have e1 : Ext w w1 := by rw [hw1]; exact (Ext.refl _).alloc_ _
 have e2 : Ext w1 w2 := by rw [hw2]; exact (Ext.refl _).alloc_ _
 have e3 : Ext w2 w3 := by rw [hw3]; exact (Ext.refl _).alloc_ _
 have e4 : Ext w3 w4 := by rw [hw4]; exact (Ext.refl _).alloc_ _
 have e5 : Ext w4 w5 := by rw [hw5]; exact (Ext.refl _).alloc_ _
 obtain ⟨w6, hw6⟩ : ∃ w6, w6 = protoW w := ⟨_, rfl⟩
 have h6 : w6 = w5.alloc (.cells #[.int .i64 48, .slice (some ⟨w.heap.size, 0, none⟩) 1 1, .int .i64 109, .slice (some ⟨w.heap.size + 1, 0, none⟩) 2 2, .int .i64 945, .slice (some ⟨w.heap.size + 2, 0, none⟩) 1 1, .int .i64 1072, .slice (some ⟨w.heap.size + 3, 0, none⟩) 1 1, .int .i64 1632, .slice (some ⟨w.heap.size + 4, 0, none⟩) 2 2] 74) := by
  rw [hw6, hw5, hw4, hw3, hw2, hw1]; rfl
 have e6 : Ext w5 w6 := by rw [h6]; exact (Ext.refl _).alloc_ _
 have i1 : IntS w1 ⟨some ⟨w.heap.size, 0, none⟩, 1, 1⟩ [111] := by rw [hw1]; exact ints_at rfl [111] _ (by simp [maxLen])
 have i2 : IntS w2 ⟨some ⟨w.heap.size + 1, 0, none⟩, 2, 2⟩ [114, 110] := by rw [hw2]; exact ints_at z1 [114, 110] _ (by simp [maxLen])
 have i3 : IntS w3 ⟨some ⟨w.heap.size + 2, 0, none⟩, 1, 1⟩ [97] := by rw [hw3]; exact ints_at z2 [97] _ (by simp [maxLen])
 have i4 : IntS w4 ⟨some ⟨w.heap.size + 3, 0, none⟩, 1, 1⟩ [97] := by rw [hw4]; exact ints_at z3 [97] _ (by simp [maxLen])
 have i5 : IntS w5 ⟨some ⟨w.heap.size + 4, 0, none⟩, 2, 2⟩ [111, 803] := by rw [hw5]; exact ints_at z4 [111, 803] _ (by simp [maxLen])
 have j1 := i1.ext (e2.trans' (e3.trans' (e4.trans' (e5.trans' e6))))
 have j2 := i2.ext (e3.trans' (e4.trans' (e5.trans' e6)))
 have j3 := i3.ext (e4.trans' (e5.trans' e6))
 have j4 := i4.ext (e5.trans' e6)
 have j5 := i5.ext e6
 have hno : ∀ k, w.heap.size + k ∉ M := fun k hm => by have := hM _ hm; omega
 have hcell : ∀ j, (hide M w6).cell? ⟨w.heap.size + 5, j, none⟩ = (#[.int .i64 48, .slice (some ⟨w.heap.size, 0, none⟩) 1 1, .int .i64 109, .slice (some ⟨w.heap.size + 1, 0, none⟩) 2 2, .int .i64 945, .slice (some ⟨w.heap.size + 2, 0, none⟩) 1 1, .int .i64 1072, .slice (some ⟨w.heap.size + 3, 0, none⟩) 1 1, .int .i64 1632, .slice (some ⟨w.heap.size + 4, 0, none⟩) 2 2] : Array Value)[j]? := by
  intro j
  rw [hide_cell, if_neg (hno 5), h6, ← z5]
  exact World.cell?_alloc_new _ _ _ j
 rw [← hw6]
 refine ⟨⟨⟨rfl, Nat.le_refl _, by simp [maxLen]⟩, fun i x hx => ?_⟩, e1.trans' (e2.trans' (e3.trans' (e4.trans' (e5.trans' e6)))), by rw [h6]; simp [z5]⟩
 match i, hx with
 | 0, hx => simp [protosL] at hx; subst hx; exact ⟨_, 0, _, _, _, rfl, hcell 0, hcell 1, j1.hide_ (hno 0)⟩
 | 1, hx => simp [protosL] at hx; subst hx; exact ⟨_, 0, _, _, _, rfl, hcell 2, hcell 3, j2.hide_ (hno 1)⟩
 | 2, hx => simp [protosL] at hx; subst hx; exact ⟨_, 0, _, _, _, rfl, hcell 4, hcell 5, j3.hide_ (hno 2)⟩
 | 3, hx => simp [protosL] at hx; subst hx; exact ⟨_, 0, _, _, _, rfl, hcell 6, hcell 7, j4.hide_ (hno 3)⟩
 | 4, hx => simp [protosL] at hx; subst hx; exact ⟨_, 0, _, _, _, rfl, hcell 8, hcell 9, j5.hide_ (hno 4)⟩
 | i + 5, hx => simp [protosL] at hx
end Go.Proofs.YtbdabjhankgcmaaGreatDoor
namespace Go.Proofs.YtbdabjhankgcmaaGreatDoor
open Go.RowKit
attribute [local go_sem ↓] Go.wp_at_zero Go.wp_at_succ
structure Tcells (w : World) (tb : Nat) (t : TV) : Prop where
 c0 : w.cell? ⟨tb, 0, none⟩ = some (.slice t.s0.a t.s0.n t.s0.c)
 c1 : w.cell? ⟨tb, 1, none⟩ = some (.slice t.s1.a t.s1.n t.s1.c)
 c2 : w.cell? ⟨tb, 2, none⟩ = some (.slice t.s2.a t.s2.n t.s2.c)
 c3 : w.cell? ⟨tb, 3, none⟩ = some (.slice t.s3.a t.s3.n t.s3.c)
 c4 : w.cell? ⟨tb, 4, none⟩ = some (.slice t.s4.a t.s4.n t.s4.c)
 c5 : w.cell? ⟨tb, 5, none⟩ = some (.slice t.s5.a t.s5.n t.s5.c)
 c6 : w.cell? ⟨tb, 6, none⟩ = some (.slice t.s6.a t.s6.n t.s6.c)
 c7 : w.cell? ⟨tb, 7, none⟩ = some (.slice t.s7.a t.s7.n t.s7.c)
 c8 : w.cell? ⟨tb, 8, none⟩ = some (.slice t.s8.a t.s8.n t.s8.c)
 c9 : w.cell? ⟨tb, 9, none⟩ = some (.slice t.s9.a t.s9.n t.s9.c)
 c10 : w.cell? ⟨tb, 10, none⟩ = some (.slice t.s10.a t.s10.n t.s10.c)
 c11 : w.cell? ⟨tb, 11, none⟩ = some (.slice t.s11.a t.s11.n t.s11.c)
theorem Tcells.same {w w' : World} {tb : Nat} {t : TV} (h : Tcells w tb t) (hc : ∀ j, w'.cell? ⟨tb, j, none⟩ = w.cell? ⟨tb, j, none⟩) : Tcells w' tb t :=
 ⟨(hc 0).trans h.c0, (hc 1).trans h.c1, (hc 2).trans h.c2, (hc 3).trans h.c3, (hc 4).trans h.c4, (hc 5).trans h.c5, (hc 6).trans h.c6, (hc 7).trans h.c7, (hc 8).trans h.c8, (hc 9).trans h.c9, (hc 10).trans h.c10, (hc 11).trans h.c11⟩
theorem Tcells.kp {w w' : World} {tb : Nat} {t : TV} {N : List Nat} (h : Tcells w tb t) (hk : Kp N w w') (hn : tb ∉ N) : Tcells w' tb t :=
 h.same fun j => hk.cell ⟨tb, j, none⟩ (show tb < _ from World.block_lt_of_cell? w ⟨tb, 0, none⟩ h.c0) hn
theorem Tcells.of {w : World} {tb : Nat} (h : ∀ j, j < 12 → ∃ A n c, w.cell? ⟨tb, j, none⟩ = some (.slice A n c)) : ∃ t : TV, Tcells w tb t := by
 obtain ⟨a0, n0, k0, e0⟩ := h 0 (by omega)
 obtain ⟨a1, n1, k1, e1⟩ := h 1 (by omega)
 obtain ⟨a2, n2, k2, e2⟩ := h 2 (by omega)
 obtain ⟨a3, n3, k3, e3⟩ := h 3 (by omega)
 obtain ⟨a4, n4, k4, e4⟩ := h 4 (by omega)
 obtain ⟨a5, n5, k5, e5⟩ := h 5 (by omega)
 obtain ⟨a6, n6, k6, e6⟩ := h 6 (by omega)
 obtain ⟨a7, n7, k7, e7⟩ := h 7 (by omega)
 obtain ⟨a8, n8, k8, e8⟩ := h 8 (by omega)
 obtain ⟨a9, n9, k9, e9⟩ := h 9 (by omega)
 obtain ⟨a10, n10, k10, e10⟩ := h 10 (by omega)
 obtain ⟨a11, n11, k11, e11⟩ := h 11 (by omega)
 exact ⟨⟨⟨a0, n0, k0⟩, ⟨a1, n1, k1⟩, ⟨a2, n2, k2⟩, ⟨a3, n3, k3⟩, ⟨a4, n4, k4⟩, ⟨a5, n5, k5⟩, ⟨a6, n6, k6⟩, ⟨a7, n7, k7⟩, ⟨a8, n8, k8⟩, ⟨a9, n9, k9⟩, ⟨a10, n10, k10⟩, ⟨a11, n11, k11⟩⟩, e0, e1, e2, e3, e4, e5, e6, e7, e8, e9, e10, e11⟩
theorem PSt.cells {we w0 w : World} {g tb bs q n c : Nat} {M : List Nat} {A : Option Addr} {P : List Mp} {ign : List Sp} {r : List Int} (h : PSt we w0 w g tb bs q M A n c ign P r) (hc : ∀ j, j < 12 → ∃ A n c, we.cell? ⟨tb, j, none⟩ = some (.slice A n c)) : ∀ j, j < 12 → ∃ A n c, w.cell? ⟨tb, j, none⟩ = some (.slice A n c) := by
 intro j hj
 by_cases h11 : j = 11
 ·subst h11; exact ⟨_, _, _, h.v11⟩
 ·rw [h.oth j h11]; exact hc j hj
theorem Tcells.ign {w : World} {tb : Nat} {t : TV} {M : List Nat} {L : List Sp} (h : Tcells w tb t) (hc : ColAt M w tb 6 L) : SpanS w t.s6 L := by
 obtain ⟨A, n, c, h1, h2, _⟩ := hc
 rw [h.c6] at h1
 injection h1 with h1
 injection h1 with e1 e2 e3
 have : t.s6 = ⟨A, n, c⟩ := by rw [← e1, ← e2, ← e3]
 rw [this]
 exact h2.sub fun p v => hide_sub
structure FX (w : World) (tb mb zb zo z zn zc : Nat) (t : TV) (lo la : Int) : Prop where
 tc : Tcells w tb t
 f0 : w.cell? ⟨mb, 0, none⟩ = some (.int .i64 lo)
 f1 : w.cell? ⟨mb, 1, none⟩ = some (.slice (some ⟨zb, zo, none⟩) zn zc)
 f2 : w.cell? ⟨zb, zo + z, none⟩ = some (.int .i64 la)
theorem FX.kp {w w' : World} {tb mb zb zo z zn zc : Nat} {t : TV} {lo la : Int} {N : List Nat} (h : FX w tb mb zb zo z zn zc t lo la) (hk : Kp N w w') (h1 : tb ∉ N) (h2 : mb ∉ N) (h3 : zb ∉ N) : FX w' tb mb zb zo z zn zc t lo la :=
 ⟨h.tc.kp hk h1, (hk.cell ⟨mb, 0, none⟩ (World.block_lt_of_cell? w _ h.f0) h2).trans h.f0, (hk.cell ⟨mb, 1, none⟩ (World.block_lt_of_cell? w _ h.f1) h2).trans h.f1, (hk.cell ⟨zb, zo + z, none⟩ (World.block_lt_of_cell? w _ h.f2) h3).trans h.f2⟩
theorem hide_nm {M : List Nat} {w : World} {p : Addr} {v : Value} (h : (hide M w).cell? p = some v) : p.block ∉ M := by
 rw [hide_cell] at h
 intro hm
 rw [if_pos hm] at h
 cases h
def ProPost (w0 w : World) (g tb : Nat) (ign : List Sp) (r : List Int) (w' : World) : Prop :=
 ∃ M q A n c, PSt w w0 w' g tb w.heap.size q M A n c ign (runP ign protosL [] r).1 (runP ign protosL [] r).2
def PLoop (w0 w : World) (g tb : Nat) (ign : List Sp) (r : List Int) (gh : Nat) (s18 : Value) (wx : World) : Prop :=
 ∃ (k : Nat) (M : List Nat) (A : Option Addr) (n c : Nat) (P : List Mp) (r' : List Int), k + gh = 5 ∧ s18 = .int .i64 k ∧ PSt w w0 wx g tb w.heap.size (w.heap.size + 5) M A n c ign P r' ∧
  Hid (runP ign protosL [] r = runP ign (protosL.drop k) P r') ∧ P.length ≤ k ∧ w.heap.size + 6 ≤ wx.heap.size
set_option maxHeartbeats 6400000 in
set_option maxRecDepth 100000 in
theorem prototypes_spec (w0 w : World) (g tb : Nat) (M0 : List Nat) (ign : List Sp) (r : List Int) (hs : Src w0 w g r) (hb : Ext w0 w) (hgt : g < tb) (htl : tb < w.heap.size) (hw0 : w0.heap.size ≤ tb) (hcl : ∀ j, j < 12 → ∃ A n c, w.cell? ⟨tb, j, none⟩ = some (.slice A n c))
  (h11 : w.cell? ⟨tb, 11, none⟩ = some (.slice none 0 0)) (hf : ∀ k, w.frozen? ⟨tb, k, none⟩ = false) (hcol : ColAt M0 w tb 6 ign) (hgM : g ∈ M0) (htM : tb ∈ M0) (hM0 : ∀ b ∈ M0, b < w.heap.size) :
  Calls Tryz.prog 52 #[.pointer (some ⟨g, 0, none⟩), .pointer (some ⟨tb, 0, none⟩)] w fun e w' => e = .returned (.tuple #[]) ∧ ProPost w0 w g tb ign r w' := by
 have HGT : Hid (g < tb) := Lib.hid hgt
 have HCL := Lib.hid hcl
 obtain ⟨hlit, hxl, hzl⟩ := proto_lit w M0 hM0
 have H0 : Hid (PSt w w0 (protoW w) g tb w.heap.size (w.heap.size + 5) M0 none 0 0 ign [] r) := Lib.hid ⟨hs.kp (M := []) (Kp.ofExt hxl) (by simp), hb.trans' hxl, Kp.ofExt hxl, fun k _ => hxl.b.cell (p := ⟨tb, k, none⟩) htl, fun k => (hxl.b.frozen (p := ⟨tb, k, none⟩) htl).trans (hf k), keep_cell (ext_keep hxl) h11, OwnMp.nil_ _ _ _,
  hcol.kp (N := []) (Kp.ofExt hxl) (by simp) (by simp), hlit, hgM, htM, fun b hb => (by cases hb), fun b hb => by have := hM0 b hb; omega⟩
 clear hs hb hcl h11 hf hcol hgM htM hM0 hlit hxl
 go_enter Tryz.func52, Tryz.ntmps52
 go_wp2_with fail
 go_loopg [18] 5 (fun gh s18 wx => PLoop w0 w g tb ign r gh s18 wx)
 case atStart => exact ⟨0, M0, none, 0, 0, [], r, rfl, rfl, H0.out, Lib.hid rfl, Nat.le_refl _, by show w.heap.size + 6 ≤ (protoW w).heap.size; omega⟩
 case round =>
  obtain ⟨k, M, A, n, c, P, r0, hkg, rfl, hst, HR, hl1, hzr⟩ := hrel
  have HST := Lib.hid hst
  clear hst H0 hzl
  by_cases hlt : k < 5
  ·obtain ⟨gk', rfl⟩ : ∃ g', gk = g' + 1 := ⟨gk - 1, by omega⟩
   have hk1 : (k : Int) < 5 := by omega
   have hk0 : (0 : Int) ≤ (k : Int) := Int.natCast_nonneg _
   have hkp : k < protosL.length := by simpa [protosL] using hlt
   obtain ⟨b', o', za, zn, zc, hbo, hp0, hp1, hpz⟩ := HST.out.lst.at_ hkp
   injection hbo with hbo
   injection hbo with e1 e2
   subst e1 e2
   rw [Nat.zero_add] at hp0 hp1
   have hp0 := hide_sub hp0
   have hp1 := hide_sub hp1
   have HZ0 := Lib.hid hpz
   have HD : Hid (protosL.drop k = protosL[k] :: protosL.drop (k + 1)) := drop_at protosL k hkp
   have hne : 0 < protosL[k].to.length := by
    have : ∀ m ∈ protosL, 0 < m.to.length := by intro m hm; simp only [protosL, List.mem_cons, List.not_mem_nil, or_false] at hm; rcases hm with rfl | rfl | rfl | rfl | rfl <;> simp
    exact this _ (List.getElem_mem _)
   generalize protosL[k] = m at *
   obtain ⟨lo, ts⟩ := m
   simp only at hp0 hp1 hpz hne HZ0
   obtain ⟨hzn, hzl1, hzl2⟩ := hpz.len
   obtain ⟨z, hz⟩ : ∃ z, zn = z + 1 := ⟨zn - 1, by omega⟩
   subst hz
   have hzl : z < ts.length := by omega
   have hzb : (z : Int) < 9223372036854775807 := by omega
   obtain ⟨zb, zo, hza, hzc⟩ := hpz.at_ hzl
   have hzm := hide_nm hzc
   have hzc := hide_sub hzc
   have HLA : Hid (lastI ts = ts[z]) := Lib.hid (by rw [lastI_eq (by omega)]; congr 1; omega)
   generalize ts[z] = la at *
   subst hza
   obtain ⟨b46, hb46⟩ : ∃ b, ((nxV 3 r0 == 0) || (spFind ign lo == 1) || (spFind ign la == 1)) = b := ⟨_, rfl⟩
   have HB := Lib.hid hb46
   have HR1 : Hid (runP ign protosL [] r = runP ign (protosL.drop (k + 1)) (if b46 = true then P else P ++ [⟨lo, ts⟩]) r0.tail) := Lib.hid (by
    rw [HR.out, HD.out, runP, stepP]
    simp only [HLA.out, hb46])
   clear HR HD hb46 hpz hne hzn hzl1 hzl2
   obtain ⟨wo, rfl⟩ : ∃ wo : World, wo = wr := ⟨_, rfl⟩
   go_upto_region 3 with fail
   have hxa : Ext wo (wo.alloc (.cells #[.int .i64 lo, .slice (some ⟨zb, zo, none⟩) (z + 1) zc] 74)) := (Ext.refl _).alloc_ _
   obtain ⟨w1, hw1⟩ : ∃ w1, w1 = wo.alloc (.cells #[.int .i64 lo, .slice (some ⟨zb, zo, none⟩) (z + 1) zc] 74) := ⟨_, rfl⟩
   rw [← hw1] at hxa ⊢
   have HST1 := Lib.hid (HST.out.ext_ hxa HGT.out htl)
   obtain ⟨t, htc⟩ := Tcells.of (HST1.out.cells HCL.out)
   have HFX1 : Hid (FX w1.drew tb wo.heap.size zb zo z (z + 1) zc t lo la) := Lib.hid ⟨htc.kp (N := []) (Kp.ofExt (Ext.refl _).drew_) (by simp), by rw [hw1]; exact World.cell?_alloc_new wo _ _ 0, by rw [hw1]; exact World.cell?_alloc_new wo _ _ 1, (keep_cell (ext_keep (hxa.trans' (Ext.refl _).drew_)) hzc)⟩
   have hz1 : w1.heap.size = wo.heap.size + 1 := by rw [hw1]; simp
   have X1 : Hid (Ext w1 w1.drew) := Lib.hid (Ext.refl _).drew_
   have HK1 : Hid (Kp [g] wo w1) := Lib.hid (Kp.ofExt hxa)
   have S1 := Lib.hid ((HST1.out.ext_ X1.out HGT.out htl).src)
   have E1 := Lib.hid (HST1.out.ext.trans' X1.out)
   have hgM := HST.out.hg
   have hzg : zb ∉ [g] := by intro h'; simp at h'; subst h'; exact hzm hgM
   have hmbt : tb < wo.heap.size := by omega
   clear hw1 hxa htc hzc hp0 hp1
   generalize hmb : wo.heap.size = mb at *
   have HMB := Lib.hid hmb
   clear hmb
   go_cut [46] from 19 to 57 (fun s46 wx => s46 = .bool b46 ∧ PSt w w0 wx g tb w.heap.size (w.heap.size + 5) M A n c ign P r0.tail ∧ Kp [g] wo wx ∧ wx.cell? ⟨mb, 0, none⟩ = some (.int .i64 lo) ∧ wx.cell? ⟨mb, 1, none⟩ = some (.slice (some ⟨zb, zo, none⟩) (z + 1) zc))
   case first =>
    obtain ⟨b0, hb0⟩ : ∃ b, (nxV 3 r0 == 0) = b := ⟨_, rfl⟩
    obtain ⟨b1, hb1⟩ : ∃ b, (spFind ign lo == 1) = b := ⟨_, rfl⟩
    obtain ⟨b2, hb2⟩ : ∃ b, (spFind ign la == 1) = b := ⟨_, rfl⟩
    have HBB : Hid ((b0 || b1 || b2) = b46) := Lib.hid (by rw [← HB.out, hb0, hb1, hb2])
    have hi0 : (0 : Int) ≤ (z : Int) := Int.natCast_nonneg _
    have hi1 : (z : Int) < ((z + 1 : Nat) : Int) := by omega
    have hi2 : (z : Int) < (z : Int) + 1 := by omega
    have hi3 : IntKind.i64.wrap ((z : Int) + 1 - 1) = (z : Int) := by rw [show (z : Int) + 1 - 1 = z from by omega]; exact IntWalk.i64_in _ (by omega)
    have hb46v : Value.bool (b0 || b1 || b2) = .bool b46 := by rw [HBB.out]
    have HB2 := Lib.hid hb46v
    clear hb46v
    refine region_head_ext 4 (by kernel_rfl) (by kernel_rfl) (by kernel_rfl) (by kernel_rfl) ?_
    simp only [List.take_succ_cons, List.take_zero, List.drop_succ_cons, List.drop_zero]
    go_wp2_with fail
    refine (next_spec w0 w1.drew g r0 3 (by decide) (by decide) S1.out E1.out).mono ?_
    rintro e w2 ⟨rfl, hs2, hk2, hb2w⟩
    have HST2 := Lib.hid ((HST1.out.ext_ X1.out HGT.out htl).next hk2 hs2 hb2w HGT.out htl)
    have HFX2 := Lib.hid (HFX1.out.kp hk2 (by simp; omega) (by simp; omega) hzg)
    have HIG2 : Hid (∀ x : ExtW w2, SpanS x.w t.s6 ign) := Lib.hid (fun x => (HFX2.out.tc.ign HST2.out.col).ext x.h)
    have HK2 := Lib.hid ((HK1.out.trans (Kp.ofExt X1.out)).trans hk2)
    clear hs2 hk2 hb2w
    go_wp2_with fail
    simp only [headQ]
    have x0 : ∀ y : ExtW w2, y.w.cell? ⟨tb, 0, none⟩ = some (.slice t.s0.a t.s0.n t.s0.c) := ext_cell HFX2.out.tc.c0
    have x1 : ∀ y : ExtW w2, y.w.cell? ⟨tb, 1, none⟩ = some (.slice t.s1.a t.s1.n t.s1.c) := ext_cell HFX2.out.tc.c1
    have x2 : ∀ y : ExtW w2, y.w.cell? ⟨tb, 2, none⟩ = some (.slice t.s2.a t.s2.n t.s2.c) := ext_cell HFX2.out.tc.c2
    have x3 : ∀ y : ExtW w2, y.w.cell? ⟨tb, 3, none⟩ = some (.slice t.s3.a t.s3.n t.s3.c) := ext_cell HFX2.out.tc.c3
    have x4 : ∀ y : ExtW w2, y.w.cell? ⟨tb, 4, none⟩ = some (.slice t.s4.a t.s4.n t.s4.c) := ext_cell HFX2.out.tc.c4
    have x5 : ∀ y : ExtW w2, y.w.cell? ⟨tb, 5, none⟩ = some (.slice t.s5.a t.s5.n t.s5.c) := ext_cell HFX2.out.tc.c5
    have x6 : ∀ y : ExtW w2, y.w.cell? ⟨tb, 6, none⟩ = some (.slice t.s6.a t.s6.n t.s6.c) := ext_cell HFX2.out.tc.c6
    have x7 : ∀ y : ExtW w2, y.w.cell? ⟨tb, 7, none⟩ = some (.slice t.s7.a t.s7.n t.s7.c) := ext_cell HFX2.out.tc.c7
    have x8 : ∀ y : ExtW w2, y.w.cell? ⟨tb, 8, none⟩ = some (.slice t.s8.a t.s8.n t.s8.c) := ext_cell HFX2.out.tc.c8
    have x9 : ∀ y : ExtW w2, y.w.cell? ⟨tb, 9, none⟩ = some (.slice t.s9.a t.s9.n t.s9.c) := ext_cell HFX2.out.tc.c9
    have x10 : ∀ y : ExtW w2, y.w.cell? ⟨tb, 10, none⟩ = some (.slice t.s10.a t.s10.n t.s10.c) := ext_cell HFX2.out.tc.c10
    have x11 : ∀ y : ExtW w2, y.w.cell? ⟨tb, 11, none⟩ = some (.slice t.s11.a t.s11.n t.s11.c) := ext_cell HFX2.out.tc.c11
    have y0 : ∀ y : ExtW w2, y.w.cell? ⟨mb, 0, none⟩ = some (.int .i64 lo) := ext_cell HFX2.out.f0
    have y1 : ∀ y : ExtW w2, y.w.cell? ⟨mb, 1, none⟩ = some (.slice (some ⟨zb, zo, none⟩) (z + 1) zc) := ext_cell HFX2.out.f1
    have y2 : ∀ y : ExtW w2, y.w.cell? ⟨zb, zo + z, none⟩ = some (.int .i64 la) := ext_cell HFX2.out.f2
    cases b0 <;> cases b1
    all_goals
     repeat (go_big_quiet_step ((go_at_call 90; first | with_reducible exact quiet_ext (rign_spec t ign lo _ (HIG2.out _)) | with_reducible exact quiet_ext (rign_spec t ign la _ (HIG2.out _)))))
     refine wpQuiet_nil ?_
     rintro _ ⟨yw, rfl⟩
     have HY := Lib.hid (And.intro (y0 yw) (y1 yw))
     clear x0 x1 x2 x3 x4 x5 x6 x7 x8 x9 x10 x11 y0 y1 y2
     go_wp2_with fail
     go_meet
     case rel => exact ⟨HB2.out, HST2.out.ext_ yw.h HGT.out htl, HK2.out.trans (Kp.ofExt yw.h), HY.out.1, HY.out.2⟩
   case rest =>
    obtain ⟨rfl, hst3, hk3, hm0, hm1⟩ := hcut
    obtain ⟨w3, rfl⟩ : ∃ w3 : World, w3 = wc := ⟨_, rfl⟩
    have HST3 := Lib.hid hst3
    have HSQ := Lib.hid (HZ0.out.keep (hide_keep' (hk3.mono (M' := M) (by intro b hb; simp at hb; subst hb; exact .inl hst3.hg))))
    have hz3 : mb ≤ w3.heap.size := by rw [← HMB.out]; exact hk3.size
    clear hst3 hk3 HST HST1 HFX1 S1 E1 X1 HK1
    cases b46
    ·have HEQ : Hid ((if false = true then P else P ++ [⟨lo, ts⟩]) = P ++ [⟨lo, ts⟩]) := Lib.hid (if_neg (by simp))
     have hv11 := HST3.out.v11
     have hXC : Ext w3 (w3.alloc (.cells #[.int .i64 lo, .slice (some ⟨zb, zo, none⟩) (z + 1) zc] 74)).drew := ((Ext.refl _).alloc_ _).drew_
     have HXC := Lib.hid hXC
     have hmC := keep_cell (ext_keep hXC) hm0
     have hmC1 := keep_cell (ext_keep hXC) hm1
     have hvC := keep_cell (ext_keep hXC) hv11
     have HUC := Lib.hid (HST3.out.ext_ hXC HGT.out htl)
     have HSC := Lib.hid (HSQ.out.keep (hide_keep' (M := M) (Kp.ofExt hXC)))
     have hc0 : (w3.alloc (.cells #[.int .i64 lo, .slice (some ⟨zb, zo, none⟩) (z + 1) zc] 74)).drew.cell? ⟨w3.heap.size, 0, none⟩ = some (.int .i64 lo) := World.cell?_alloc_new w3 _ _ 0
     have hc1 : (w3.alloc (.cells #[.int .i64 lo, .slice (some ⟨zb, zo, none⟩) (z + 1) zc] 74)).drew.cell? ⟨w3.heap.size, 1, none⟩ = some (.slice (some ⟨zb, zo, none⟩) (z + 1) zc) := World.cell?_alloc_new w3 _ _ 1
     have HC0 := Lib.hid hc0
     have HC1 := Lib.hid hc1
     have hn8 := HST3.out.o11.len.1
     have hn8' : n ≤ 5 := by omega
     clear hXC hc0 hc1 hn8
     go_wp2_with fail
     go_region_law ((refine step_append_map (by rfl) _ _ (by rfl) M w.heap.size (by rfl) HUC.out.o11 (by rfl) HC0.out HC1.out HSC.out HUC.out.h11 (by omega) (by simp; omega) ?_
                     intro A13 c13 w13 hown13 hgr13 hat13
                     obtain ⟨M13, hu13⟩ := PSt.push11 HUC.out hown13 hgr13 hat13 HGT.out htl (Nat.le_refl _) hw0
                     obtain ⟨hc13, hf13⟩ := PSt.tcell HUC.out hgr13 htl 11
                     have hc13' := hc13.trans HUC.out.v11
                     have hz13 := Nat.le_trans (Ext.b HXC.out).size hgr13.size
                     have HU13 := Lib.hid hu13
                     clear hown13 hgr13 hat13 hu13 hc13))
     all_goals
      go_wp2_with fail
      go_roundg gk'
      case measure => omega
      case rel => exact ⟨k + 1, M13, A13, _, c13, _, r0.tail, by omega, by go_num, HU13.out, Lib.hid (by rw [HR1.out, HEQ.out]), by simp; omega, by simp; omega⟩
    ·have HEQ : Hid ((if true = true then P else P ++ [⟨lo, ts⟩]) = P) := Lib.hid (if_pos rfl)
     go_wp2_with fail
     go_roundg gk'
     case measure => omega
     case rel => exact ⟨k + 1, M, A, n, c, P, r0.tail, by omega, by go_num, HST3.out, Lib.hid (by rw [HR1.out, HEQ.out]), by omega, by omega⟩
  ·obtain rfl : gk = 0 := by omega
   obtain rfl : k = 5 := by omega
   have HRX : Hid (runP ign protosL [] r = (P, r0)) := Lib.hid (by rw [HR.out, drop_all protosL 5 (by decide)]; rfl)
   go_wp2_with fail
   go_end0
   exact ⟨rfl, M, _, A, n, c, by rw [HRX.out]; exact HST.out⟩
end Go.Proofs.YtbdabjhankgcmaaGreatDoor
