/- keep.maps: a mapping in the making; the state in which it works. -/
import Derived.Test.YtbdabjhankgcmaaGreatDoorKd
namespace Go.Proofs.YtbdabjhankgcmaaGreatDoor
open Go.RowKit
structure XSt (wo w0 w : World) (g : Nat) (r : List Int) (mb : Nat) (lo : Int) (A : Option Addr) (n c : Nat) (to : List Int) : Prop where
 kp : Kp [g] wo w
 src : Src w0 w g r
 ext : Ext w0 w
 m0 : w.cell? ⟨mb, 0, none⟩ = some (.int .i64 lo)
 m1 : w.cell? ⟨mb, 1, none⟩ = some (.slice A n c)
 fz : w.frozen? ⟨mb, 1, none⟩ = false
 own : OwnI w wo.heap.size A n c to
 bmb : wo.heap.size ≤ mb
 d : blkOf A ≠ some mb
section
variable {wo w0 w w' : World} {g mb n c : Nat} {A : Option Addr} {r r' to : List Int} {lo : Int}
theorem XSt.lt (h : XSt wo w0 w g r mb lo A n c to) : mb < w.heap.size := World.block_lt_of_cell? w _ h.m0
theorem XSt.next (h : XSt wo w0 w g r mb lo A n c to) (hk : Kp [g] w w') (hs : Src w0 w' g r') (hb : Ext w0 w') (hg : g < wo.heap.size) : XSt wo w0 w' g r' mb lo A n c to := by
 have hm : mb ∉ [g] := by have := h.bmb; simp; omega
 exact ⟨h.kp.trans hk, hs, hb, (hk.cell ⟨mb, 0, none⟩ h.lt hm).trans h.m0, (hk.cell ⟨mb, 1, none⟩ h.lt hm).trans h.m1, (hk.frozen ⟨mb, 1, none⟩ h.lt hm).trans h.fz, Own.kp h.own hk (fun b hb => by have := (Own.lt h.own b hb).1; simp; omega), h.bmb, h.d⟩
theorem XSt.ext_ (h : XSt wo w0 w g r mb lo A n c to) (hx : Ext w w') (hg : g < wo.heap.size) : XSt wo w0 w' g r mb lo A n c to :=
 h.next (Kp.ofExt hx) (h.src.kp (M := []) (Kp.ofExt hx) (by simp)) (h.ext.trans' hx) hg
theorem XSt.new (hk : Kp [g] wo w) (hs : Src w0 w g r) (hb : Ext w0 w) (a lo : Int) (t1 : TypeId) :
  XSt wo w0 ((w.alloc (.cells #[.int .i64 a] 3)).alloc (.cells #[.int .i64 lo, .slice (some ⟨w.heap.size, 0, none⟩) 1 1] t1)) g r (w.heap.size + 1) lo (some ⟨w.heap.size, 0, none⟩) 1 1 [a] := by
 have hx1 : Ext w (w.alloc (.cells #[.int .i64 a] 3)) := (Ext.refl _).alloc_ _
 have hx2 : Ext (w.alloc (.cells #[.int .i64 a] 3)) ((w.alloc (.cells #[.int .i64 a] 3)).alloc (.cells #[.int .i64 lo, .slice (some ⟨w.heap.size, 0, none⟩) 1 1] t1)) := (Ext.refl _).alloc_ _
 have hz : (w.alloc (.cells #[.int .i64 a] 3)).heap.size = w.heap.size + 1 := by simp
 have hsz := hk.size
 have hown : OwnI (w.alloc (.cells #[.int .i64 a] 3)) wo.heap.size (some ⟨w.heap.size, 0, none⟩) 1 1 [a] :=
  ⟨rfl, .inr ⟨w.heap.size, 1, #[.int .i64 a], rfl, hsz, heap_alloc_new w _, Nat.le_refl _, by simp [maxLen], rfl, rfl⟩⟩
 refine ⟨hk.trans (Kp.ofExt (hx1.trans' hx2)), hs.kp (M := []) (Kp.ofExt (hx1.trans' hx2)) (by simp), (hb.trans' hx1).trans' hx2, ?_, ?_, ?_, Own.ext hown hx2, by omega, fun hb => ?_⟩
 ·rw [← hz]; exact World.cell?_alloc_new _ _ _ 0
 ·rw [← hz]; exact World.cell?_alloc_new _ _ _ 1
 ·rw [← hz]; simp
 ·simp only [blkOf, Option.map_some, Option.some.injEq] at hb
  omega
theorem XSt.mcell (h : XSt wo w0 w g r mb lo A n c to) (hgr : w.grownBy w' (blkOf A)) : w'.cell? ⟨mb, 1, none⟩ = some (.slice A n c) ∧ w'.frozen? ⟨mb, 1, none⟩ = false := by
 have hk : Kp (blkOf A).toList w w' := Kp.ofGrown hgr (by intro b hb; simp [hb])
 have hmb : mb ∉ (blkOf A).toList := by simp; exact h.d
 exact ⟨(hk.cell ⟨mb, 1, none⟩ h.lt hmb).trans h.m1, (hk.frozen ⟨mb, 1, none⟩ h.lt hmb).trans h.fz⟩
theorem XSt.app (h : XSt wo w0 w g r mb lo A n c to) {A' : Option Addr} {n' c' : Nat} {to' : List Int} (hown : OwnI w' wo.heap.size A' n' c' to') (hgr : w.grownBy w' (blkOf A)) (hat : blkOf A' = blkOf A ∨ blkOf A' = some w.heap.size) (hg : g < wo.heap.size) (hw : w0.heap.size ≤ wo.heap.size) :
  XSt wo w0 (w'.setCell ⟨mb, 1, none⟩ (.slice A' n' c')) g r mb lo A' n' c' to' := by
 obtain ⟨e1, ef⟩ := h.mcell hgr
 have hml := h.lt
 have hbmb := h.bmb
 have hk : Kp (blkOf A).toList w w' := Kp.ofGrown hgr (by intro b hb; simp [hb])
 have hlt := Own.lt h.own
 have hmA : ∀ b, b ∈ (blkOf A).toList ↔ blkOf A = some b := by intro b; simp
 have hgA : g ∉ (blkOf A).toList := by rw [hmA]; intro hb; have := (hlt _ hb).1; omega
 have hx : Ext w0 w' := ext_of_grown h.ext hgr (fun k hk => by have := (hlt k hk).1; omega)
 have hks : Kp [mb] w' (w'.setCell ⟨mb, 1, none⟩ (.slice A' n' c')) := Kp.setCell _ _ _ _ (by simp)
 have hk2 : Kp (mb :: (blkOf A).toList) w (w'.setCell ⟨mb, 1, none⟩ (.slice A' n' c')) := (hk.mono (fun b hb => .inl (by simp only [List.mem_cons]; exact .inr hb))).trans (hks.mono (fun b hb => .inl (by simp at hb; simp [hb])))
 have hblk : ∀ b, blkOf A' = some b → blkOf A = some b ∨ b = w.heap.size := fun b hb => by
  rcases hat with hat | hat
  ·exact .inl (by rw [← hat]; exact hb)
  ·rw [hat] at hb; injection hb with hb; exact .inr hb.symm
 refine ⟨h.kp.via hk2 (fun b hb => ?_), h.src.kp hk2 (by simp only [List.mem_cons, not_or]; exact ⟨by omega, hgA⟩), hx.setCell_ (by show w0.heap.size ≤ mb; omega) _, ?_, World.cell?_setCell_same _ _ _ e1, by rw [World.frozen?_setCell]; exact ef, Own.kp hown hks (fun b hb hm => ?_), h.bmb, fun hb => ?_⟩
 ·rw [List.mem_cons] at hb
  rcases hb with rfl | hb
  ·exact .inr hbmb
  ·exact .inr (hlt b ((hmA b).1 hb)).1
 ·rw [World.cell?_setCell_other _ _ _ _ (by intro e; injection e with _ e; cases e)]
  exact (hk.cell ⟨mb, 0, none⟩ hml (by rw [hmA]; exact h.d)).trans h.m0
 ·simp at hm
  subst hm
  rcases hblk b hb with h' | h'
  ·exact h.d h'
  ·omega
 ·rcases hblk mb hb with h' | h'
  ·exact h.d h'
  ·omega
theorem XSt.seq (h : XSt wo w0 w g r mb lo A n c to) {M : List Nat} (hM : ∀ b ∈ M, b < wo.heap.size) (hn : 0 < n) : IntS (hide M w) ⟨A, n, c⟩ to := by
 obtain ⟨p, rfl⟩ := Own.some_ h.own hn
 exact (OwnI.ints h.own).hide_ fun hm => by have := hM p hm; have := (Own.lt h.own p rfl).1; omega
end
structure MSt (we w0 w : World) (g tb bs pb : Nat) (M : List Nat) (A8 : Option Addr) (n8 c8 : Nat) (A6 : Option Addr) (n6 c6 : Nat) (st : List Int) (P : Mps) (r : List Int) : Prop where
 src : Src w0 w g r
 ext : Ext w0 w
 kp : Kp (g :: tb :: (blkOf A6).toList) we w
 oth : ∀ k, k ≠ 5 → k ≠ 8 → w.cell? ⟨tb, k, none⟩ = we.cell? ⟨tb, k, none⟩
 frz : ∀ k, w.frozen? ⟨tb, k, none⟩ = false
 v8 : w.cell? ⟨tb, 8, none⟩ = some (.slice A8 n8 c8)
 o8 : OwnMp M w bs A8 n8 c8 P.mps
 col : ColAt M w tb 5 P.sta
 o6 : OwnI w (tb + 1) A6 n6 c6 st
 l6 : ∀ b, blkOf A6 = some b → b < bs
 hg : g ∈ M
 ht : tb ∈ M
 h8 : ∀ b, blkOf A8 = some b → b ∈ M
 h6 : ∀ b, blkOf A6 = some b → b ∈ M
 hM : ∀ b ∈ M, b < w.heap.size
 pool : IntS (hide M w) ⟨some ⟨pb, 0, none⟩, 28, 28⟩ poolL
section
variable {we w0 w w' : World} {g tb bs pb n8 c8 n6 c6 : Nat} {M : List Nat} {A8 A6 : Option Addr} {P : Mps} {r r' st : List Int}
theorem MSt.next (h : MSt we w0 w g tb bs pb M A8 n8 c8 A6 n6 c6 st P r) (hk : Kp [g] w w') (hs : Src w0 w' g r') (hb : Ext w0 w') (hgt : g < tb) (htb : tb < bs) : MSt we w0 w' g tb bs pb M A8 n8 c8 A6 n6 c6 st P r' := by
 have htl := h.hM tb h.ht
 have htN : tb ∉ [g] := by simp; omega
 have hNM : ∀ b ∈ [g], b ∈ M ∨ w.heap.size ≤ b := by intro b hb; simp at hb; subst hb; exact .inl h.hg
 exact ⟨hs, hb, h.kp.via hk (fun b hb => .inl (by simp at hb; simp [hb])), fun k k1 k2 => (hk.cell ⟨tb, k, none⟩ htl htN).trans (h.oth k k1 k2), fun k => (hk.frozen ⟨tb, k, none⟩ htl htN).trans (h.frz k), (hk.cell ⟨tb, 8, none⟩ htl htN).trans h.v8,
  h.o8.kp hk (fun b hb => by have := (h.o8.lt b hb).1; simp; omega) (fun _ h => h) (fun _ h => .inl h) hNM, h.col.kp hk hNM htN, Own.kp h.o6 hk (fun b hb => by have := (Own.lt h.o6 b hb).1; simp; omega), h.l6, h.hg, h.ht, h.h8, h.h6, fun b hb => Nat.lt_of_lt_of_le (h.hM b hb) hk.size, h.pool.keep (hide_keep' (hk.mono hNM))⟩
theorem MSt.ext_ (h : MSt we w0 w g tb bs pb M A8 n8 c8 A6 n6 c6 st P r) (hx : Ext w w') (hgt : g < tb) (htb : tb < bs) : MSt we w0 w' g tb bs pb M A8 n8 c8 A6 n6 c6 st P r :=
 h.next (Kp.ofExt hx) (h.src.kp (M := []) (Kp.ofExt hx) (by simp)) (h.ext.trans' hx) hgt htb
theorem MSt.tcell (h : MSt we w0 w g tb bs pb M A8 n8 c8 A6 n6 c6 st P r) (hgr : w.grownBy w' (blkOf A8)) (htb : tb < bs) (k : Nat) : w'.cell? ⟨tb, k, none⟩ = w.cell? ⟨tb, k, none⟩ ∧ w'.frozen? ⟨tb, k, none⟩ = false := by
 have hk : Kp (blkOf A8).toList w w' := Kp.ofGrown hgr (by intro b hb; simp [hb])
 have hn : tb ∉ (blkOf A8).toList := by
  simp only [Option.mem_toList]
  intro e
  have := (h.o8.lt tb e).1; omega
 exact ⟨hk.cell ⟨tb, k, none⟩ (h.hM tb h.ht) hn, (hk.frozen ⟨tb, k, none⟩ (h.hM tb h.ht) hn).trans (h.frz k)⟩
theorem MSt.push8 (h : MSt we w0 w g tb bs pb M A8 n8 c8 A6 n6 c6 st P r) {A' : Option Addr} {n' c' : Nat} {mps' : List Mp} (hown : OwnMp (w.heap.size :: M) w' bs A' n' c' mps') (hgr : w.grownBy w' (blkOf A8)) (hat : blkOf A' = blkOf A8 ∨ blkOf A' = some w.heap.size) (hgt : g < tb) (htb : tb < bs) (hwe : we.heap.size ≤ bs) (hw0 : w0.heap.size ≤ tb) :
  ∃ M', MSt we w0 (w'.setCell ⟨tb, 8, none⟩ (.slice A' n' c')) g tb bs pb M' A' n' c' A6 n6 c6 st { P with mps := mps' } r := by
 have htl := h.hM tb h.ht
 have hk : Kp (blkOf A8).toList w w' := Kp.ofGrown hgr (by intro b hb; simp [hb])
 have hne : ∀ b, blkOf A6 = some b → blkOf A8 ≠ some b := by
  obtain ⟨Z, _, ho, _⟩ := h.o8
  exact Own.types h.o6 ho i_ne_m
 have hlt := h.o8.lt
 have hmA : ∀ b, b ∈ (blkOf A8).toList ↔ blkOf A8 = some b := by intro b; simp
 have hgA : g ∉ (blkOf A8).toList := by rw [hmA]; intro hb; have := (hlt _ hb).1; omega
 have hc : ∀ k, w'.cell? ⟨tb, k, none⟩ = w.cell? ⟨tb, k, none⟩ := fun k => (h.tcell hgr htb k).1
 have hf : ∀ k, w'.frozen? ⟨tb, k, none⟩ = false := fun k => (h.tcell hgr htb k).2
 have hx : Ext w0 w' := ext_of_grown h.ext hgr (fun k hk => by have := (hlt k hk).1; omega)
 have hks : Kp [tb] w' (w'.setCell ⟨tb, 8, none⟩ (.slice A' n' c')) := Kp.setCell _ _ _ _ (by simp)
 have hk2 : Kp (tb :: (blkOf A8).toList) w (w'.setCell ⟨tb, 8, none⟩ (.slice A' n' c')) := (hk.mono (fun b hb => .inl (by simp only [List.mem_cons]; exact .inr hb))).trans (hks.mono (fun b hb => .inl (by simp at hb; simp [hb])))
 obtain ⟨M', m1, m2, m3, m4, m6⟩ : ∃ M' : List Nat, (∀ b ∈ M, b ∈ M') ∧ (∀ b ∈ M', b ∈ M ∨ w.heap.size ≤ b) ∧ (∀ b, blkOf A' = some b → b ∈ M') ∧ (∀ b ∈ M', b < w'.heap.size) ∧ (∀ b ∈ M', b ∈ w.heap.size :: M) := by
  rcases hat with hat | hat
  ·exact ⟨M, fun _ h => h, fun _ h => .inl h, fun b hb => h.h8 b (by rw [← hat]; exact hb), fun b hb => Nat.lt_of_lt_of_le (h.hM b hb) hk.size, fun b hb => by simp [hb]⟩
  ·refine ⟨w.heap.size :: M, fun b hb => by simp [hb], fun b hb => ?_, fun b hb => ?_, fun b hb => ?_, fun _ h => h⟩
   ·simp at hb; rcases hb with rfl | hb
    ·exact .inr (Nat.le_refl _)
    ·exact .inl hb
   ·rw [hat] at hb; injection hb with hb; simp [hb]
   ·simp at hb; rcases hb with rfl | hb
    ·exact (hown.lt _ hat).2
    ·exact Nat.lt_of_lt_of_le (h.hM b hb) hk.size
 obtain ⟨A5, n5, c5, k1, k2, k3⟩ := h.col
 have hkM : ∀ b ∈ tb :: (blkOf A8).toList, b ∈ M ∨ w.heap.size ≤ b := by
  intro b hb
  rw [List.mem_cons] at hb
  rcases hb with rfl | hb
  ·exact .inl h.ht
  ·exact .inl (h.h8 b ((hmA b).1 hb))
 refine ⟨M', ⟨h.src.kp hk2 (by simp only [List.mem_cons, not_or]; exact ⟨by omega, hgA⟩), hx.setCell_ hw0 _, h.kp.via hk2 (fun b hb => ?_), fun k k1 k2 => ?_, fun k => ?_, ?_, ?_, ?_, ?_, h.l6, m1 g h.hg, m1 tb h.ht, m3, fun b hb => m1 b (h.h6 b hb), fun b hb => by simpa using m4 b hb, h.pool.keep (hide_keep (hk2.mono hkM) m1 m2)⟩⟩
 ·rw [List.mem_cons] at hb
  rcases hb with rfl | hb
  ·exact .inl (by simp)
  ·exact .inr (Nat.le_trans hwe (hlt b ((hmA b).1 hb)).1)
 ·rw [World.cell?_setCell_other _ _ _ _ (by intro e; injection e with _ e; exact k2 e.symm), hc k]
  exact h.oth k k1 k2
 ·rw [World.frozen?_setCell]
  exact hf k
 ·exact World.cell?_setCell_same _ _ _ ((hc 8).trans h.v8)
 ·refine (hown.less m6).kp hks (fun b hb hm => ?_) (fun _ h => h) (fun _ h => .inl h) (fun b hb => ?_)
  ·simp at hm
   have := (hown.lt b hb).1
   omega
  ·simp at hb; subst hb; exact .inl (m1 b h.ht)
 ·refine ⟨A5, n5, c5, ?_, ?_, by rw [World.frozen?_setCell]; exact hf 5, k3.2.kp hk2 hkM m2⟩
  ·rw [World.cell?_setCell_other _ _ _ _ (by intro e; injection e with _ e; cases e), hc 5]
   exact k1
  ·exact k2.keep (hide_keep (hk2.mono hkM) m1 m2)
 ·refine Own.kp h.o6 hk2 (fun b hb hm => ?_)
  rw [List.mem_cons] at hm
  rcases hm with rfl | hm
  ·have := (Own.lt h.o6 b hb).1; omega
  ·exact hne b hb ((hmA b).1 hm)
theorem MSt.add5 (h : MSt we w0 w g tb bs pb M A8 n8 c8 A6 n6 c6 st P r) {L' : List Sp} (hp : AddPost M w0 w w' tb 5 L') (hgt : g < tb) (htb : tb < bs) : MSt we w0 w' g tb bs pb M A8 n8 c8 A6 n6 c6 st { P with sta := L' } r := by
 have hNM : ∀ b ∈ [tb], b ∈ M ∨ w.heap.size ≤ b := by intro b hb; simp at hb; subst hb; exact .inl h.ht
 exact ⟨h.src.kp hp.kp (by simp; omega), hp.ext, h.kp.via hp.kp (fun b hb => .inl (by simp at hb; simp [hb])), fun k k1 k2 => (hp.other k k1).trans (h.oth k k1 k2), fun k => (hp.frozen k).trans (h.frz k), (hp.other 8 (by omega)).trans h.v8,
  h.o8.kp hp.kp (fun b hb => by have := (h.o8.lt b hb).1; simp; omega) (fun _ h => h) (fun _ h => .inl h) hNM, h.col.self hp, Own.kp h.o6 hp.kp (fun b hb => by have := (Own.lt h.o6 b hb).1; simp; omega), h.l6, h.hg, h.ht, h.h8, h.h6, fun b hb => Nat.lt_of_lt_of_le (h.hM b hb) hp.kp.size, h.pool.keep (hide_keep' (hp.kp.mono hNM))⟩
theorem own_set {w : World} {bs p n c : Nat} {xs : List Int} (h : OwnI w bs (some ⟨p, 0, none⟩) n c xs) (i : Nat) (y : Int) : OwnI (w.setCell ⟨p, i, none⟩ (.int .i64 y)) bs (some ⟨p, 0, none⟩) n c (xs.set i y) := by
 have hl := Own.len h
 simp only [List.length_map, Nat.mul_one] at hl
 refine ⟨by simp [hl], .inr ?_⟩
 rcases h.2 with ⟨h', _⟩ | ⟨g, cap, cur, h', h1, h2, h3, h4, h5, h6⟩
 ·cases h'
 ·injection h' with h' _ hc
  injection h' with h'
  injection h' with h'
  subst h' hc
  refine ⟨p, c, cur.setIfInBounds i (.int .i64 y), rfl, h1, ?_, h3, h4, by simpa using h5, ?_⟩
  ·unfold World.setCell
   simp only [Array.getElem?_modify, if_true, h2, Option.map_some]
   rfl
  ·rw [List.map_set, ← h6]
   simp only [Nat.mul_one, Array.toList_setIfInBounds]
   rw [List.take_set]
theorem own_cell {w : World} {bs p n c : Nat} {xs : List Int} (h : OwnI w bs (some ⟨p, 0, none⟩) n c xs) (i : Nat) (hi : i < xs.length) : w.cell? ⟨p, i, none⟩ = some (.int .i64 xs[i]) ∧ w.frozen? ⟨p, i, none⟩ = false := by
 obtain ⟨b, hb, hc⟩ := Own.cells_ h i (.int .i64 xs[i]) (by simp [hi])
 injection hb with hb
 injection hb with hb
 subst hb
 refine ⟨hc, ?_⟩
 rcases h.2 with ⟨h', _⟩ | ⟨g, cap, cur, h', h1, h2, h3, h4, h5, h6⟩
 ·cases h'
 ·injection h' with h' _ _
  injection h' with h'
  injection h' with h'
  subst h'
  simp [World.frozen?, h2]
theorem MSt.set6 {p : Nat} (h : MSt we w0 w g tb bs pb M A8 n8 c8 (some ⟨p, 0, none⟩) n6 c6 st P r) (i : Nat) (y : Int) (hgt : g < tb) (hw0 : w0.heap.size ≤ tb) :
  MSt we w0 (w.setCell ⟨p, i, none⟩ (.int .i64 y)) g tb bs pb M A8 n8 c8 (some ⟨p, 0, none⟩) n6 c6 (st.set i y) P r := by
 have hk : Kp [p] w (w.setCell ⟨p, i, none⟩ (.int .i64 y)) := Kp.setCell _ _ _ _ (by simp)
 have hlt := Own.lt h.o6 p rfl
 have htl := h.hM tb h.ht
 have hpm := h.h6 p rfl
 have htN : tb ∉ [p] := by simp; omega
 have hNM : ∀ b ∈ [p], b ∈ M ∨ w.heap.size ≤ b := by intro b hb; simp at hb; subst hb; exact .inl hpm
 have hne : blkOf A8 ≠ some p := by
  obtain ⟨Z, _, ho, _⟩ := h.o8
  exact Own.types h.o6 ho i_ne_m p rfl
 exact ⟨h.src.kp hk (by simp; omega), h.ext.setCell_ (by show w0.heap.size ≤ p; omega) _, h.kp.via hk (fun b hb => .inl (by simp at hb; simp [hb, blkOf])), fun k k1 k2 => (hk.cell ⟨tb, k, none⟩ htl htN).trans (h.oth k k1 k2), fun k => (hk.frozen ⟨tb, k, none⟩ htl htN).trans (h.frz k), (hk.cell ⟨tb, 8, none⟩ htl htN).trans h.v8,
  h.o8.kp hk (fun b hb hm => by simp at hm; subst hm; exact hne hb) (fun _ h => h) (fun _ h => .inl h) hNM, h.col.kp hk hNM htN, own_set h.o6 i y, h.l6, h.hg, h.ht, h.h8, h.h6, fun b hb => by simpa using h.hM b hb, h.pool.keep (hide_keep' (hk.mono hNM))⟩
end
end Go.Proofs.YtbdabjhankgcmaaGreatDoor
