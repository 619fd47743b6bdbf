/- keep.Tables: the state of its loop; what its parts leave, put together. Walk: keep.Tables, up to its loop's end. -/
import Derived.Test.YtbdabjhankgcmaaGreatDoorKd2
import Derived.Test.YtbdabjhankgcmaaGreatDoorKe2
import Derived.Test.YtbdabjhankgcmaaGreatDoorGp
import Derived.Laws.Tables
import Derived.Deep.MidRow
import Derived.Deep.LoopGhost
import Derived.Deep.CutRange
namespace Go.Proofs.YtbdabjhankgcmaaGreatDoor
open Go.RowKit
structure TSt (M : List Nat) (w0 w : World) (g tb bs pb : Nat) (A : Option Addr) (n c : Nat) (C : Cols) (r : List Int) : Prop where
 src : Src w0 w g r
 ext : Ext w0 w
 cat : ColAt M w tb 0 C.cat
 cls : ColAt M w tb 1 C.cls
 joi : ColAt M w tb 2 C.joi
 bid : ColAt M w tb 3 C.bid
 scr : ColAt M w tb 4 C.scr
 ign : ColAt M w tb 6 C.ign
 nils : ∀ j, j = 5 ∨ 7 ≤ j ∧ j < 12 → w.cell? ⟨tb, j, none⟩ = some (.slice none 0 0)
 frz : ∀ k, w.frozen? ⟨tb, k, none⟩ = false
 own : OwnI w bs A n c C.sta
 hg : g ∈ M
 ht : tb ∈ M
 hA : ∀ b, blkOf A = some b → b ∈ M
 hM : ∀ b ∈ M, b < w.heap.size
 pool : IntS (hide M w) ⟨some ⟨pb, 0, none⟩, 28, 28⟩ poolL
theorem TSt.next {M : List Nat} {w0 w w' : World} {g tb bs pb n c : Nat} {A : Option Addr} {C : Cols} {r r' : List Int} (h : TSt M w0 w g tb bs pb A n c C r) (hk : Kp [g] w w') (hs : Src w0 w' g r') (hb : Ext w0 w') (h1 : g < tb) (h2 : tb < bs) : TSt M w0 w' g tb bs pb A n c C r' := by
 have hN : ∀ b ∈ [g], b ∈ M ∨ w.heap.size ≤ b := by intro b hb; simp at hb; subst hb; exact .inl h.hg
 have ht : tb ∉ [g] := by simp; omega
 exact ⟨hs, hb, h.cat.kp hk hN ht, h.cls.kp hk hN ht, h.joi.kp hk hN ht, h.bid.kp hk hN ht, h.scr.kp hk hN ht, h.ign.kp hk hN ht, fun j hj => (hk.cell ⟨tb, j, none⟩ (h.hM tb h.ht) ht).trans (h.nils j hj), fun k => (hk.frozen ⟨tb, k, none⟩ (h.hM tb h.ht) ht).trans (h.frz k),
  Own.kp h.own hk (fun b hb => by have := (h.own.lt b hb).1; simp; omega), h.hg, h.ht, h.hA, fun b hb => Nat.lt_of_lt_of_le (h.hM b hb) hk.size, h.pool.keep (hide_keep' (hk.mono hN))⟩
theorem TSt.ext_ {M : List Nat} {w0 w w' : World} {g tb bs pb n c : Nat} {A : Option Addr} {C : Cols} {r : List Int} (h : TSt M w0 w g tb bs pb A n c C r) (hb : Ext w w') (h1 : g < tb) (h2 : tb < bs) : TSt M w0 w' g tb bs pb A n c C r :=
 h.next (Kp.ofExt hb) (h.src.kp (M := []) (Kp.ofExt hb) (by simp)) (h.ext.trans' hb) h1 h2
theorem TSt.add_cat {M : List Nat} {w0 w w' : World} {g tb bs pb n c : Nat} {A : Option Addr} {C : Cols} {r : List Int} {L' : List Sp} (h : TSt M w0 w g tb bs pb A n c C r) (hp : AddPost M w0 w w' tb 0 L') (h1 : g < tb) (h2 : tb < bs) : TSt M w0 w' g tb bs pb A n c { C with cat := L' } r :=
 ⟨h.src.kp hp.kp (by simp; omega), hp.ext, h.cat.self hp, h.cls.add hp (by omega) h.ht, h.joi.add hp (by omega) h.ht, h.bid.add hp (by omega) h.ht, h.scr.add hp (by omega) h.ht, h.ign.add hp (by omega) h.ht, fun j hj => (hp.other j (by omega)).trans (h.nils j hj), fun k => (hp.frozen k).trans (h.frz k), Own.kp h.own hp.kp (fun b hb => by have := (h.own.lt b hb).1; simp; omega), h.hg, h.ht, h.hA, fun b hb => Nat.lt_of_lt_of_le (h.hM b hb) hp.kp.size, h.pool.keep (hide_keep' (hp.kp.mono (by intro b hb; simp at hb; subst hb; exact .inl h.ht)))⟩
theorem TSt.add_cls {M : List Nat} {w0 w w' : World} {g tb bs pb n c : Nat} {A : Option Addr} {C : Cols} {r : List Int} {L' : List Sp} (h : TSt M w0 w g tb bs pb A n c C r) (hp : AddPost M w0 w w' tb 1 L') (h1 : g < tb) (h2 : tb < bs) : TSt M w0 w' g tb bs pb A n c { C with cls := L' } r :=
 ⟨h.src.kp hp.kp (by simp; omega), hp.ext, h.cat.add hp (by omega) h.ht, h.cls.self hp, h.joi.add hp (by omega) h.ht, h.bid.add hp (by omega) h.ht, h.scr.add hp (by omega) h.ht, h.ign.add hp (by omega) h.ht, fun j hj => (hp.other j (by omega)).trans (h.nils j hj), fun k => (hp.frozen k).trans (h.frz k), Own.kp h.own hp.kp (fun b hb => by have := (h.own.lt b hb).1; simp; omega), h.hg, h.ht, h.hA, fun b hb => Nat.lt_of_lt_of_le (h.hM b hb) hp.kp.size, h.pool.keep (hide_keep' (hp.kp.mono (by intro b hb; simp at hb; subst hb; exact .inl h.ht)))⟩
theorem TSt.add_joi {M : List Nat} {w0 w w' : World} {g tb bs pb n c : Nat} {A : Option Addr} {C : Cols} {r : List Int} {L' : List Sp} (h : TSt M w0 w g tb bs pb A n c C r) (hp : AddPost M w0 w w' tb 2 L') (h1 : g < tb) (h2 : tb < bs) : TSt M w0 w' g tb bs pb A n c { C with joi := L' } r :=
 ⟨h.src.kp hp.kp (by simp; omega), hp.ext, h.cat.add hp (by omega) h.ht, h.cls.add hp (by omega) h.ht, h.joi.self hp, h.bid.add hp (by omega) h.ht, h.scr.add hp (by omega) h.ht, h.ign.add hp (by omega) h.ht, fun j hj => (hp.other j (by omega)).trans (h.nils j hj), fun k => (hp.frozen k).trans (h.frz k), Own.kp h.own hp.kp (fun b hb => by have := (h.own.lt b hb).1; simp; omega), h.hg, h.ht, h.hA, fun b hb => Nat.lt_of_lt_of_le (h.hM b hb) hp.kp.size, h.pool.keep (hide_keep' (hp.kp.mono (by intro b hb; simp at hb; subst hb; exact .inl h.ht)))⟩
theorem TSt.add_bid {M : List Nat} {w0 w w' : World} {g tb bs pb n c : Nat} {A : Option Addr} {C : Cols} {r : List Int} {L' : List Sp} (h : TSt M w0 w g tb bs pb A n c C r) (hp : AddPost M w0 w w' tb 3 L') (h1 : g < tb) (h2 : tb < bs) : TSt M w0 w' g tb bs pb A n c { C with bid := L' } r :=
 ⟨h.src.kp hp.kp (by simp; omega), hp.ext, h.cat.add hp (by omega) h.ht, h.cls.add hp (by omega) h.ht, h.joi.add hp (by omega) h.ht, h.bid.self hp, h.scr.add hp (by omega) h.ht, h.ign.add hp (by omega) h.ht, fun j hj => (hp.other j (by omega)).trans (h.nils j hj), fun k => (hp.frozen k).trans (h.frz k), Own.kp h.own hp.kp (fun b hb => by have := (h.own.lt b hb).1; simp; omega), h.hg, h.ht, h.hA, fun b hb => Nat.lt_of_lt_of_le (h.hM b hb) hp.kp.size, h.pool.keep (hide_keep' (hp.kp.mono (by intro b hb; simp at hb; subst hb; exact .inl h.ht)))⟩
theorem TSt.add_scr {M : List Nat} {w0 w w' : World} {g tb bs pb n c : Nat} {A : Option Addr} {C : Cols} {r : List Int} {L' : List Sp} (h : TSt M w0 w g tb bs pb A n c C r) (hp : AddPost M w0 w w' tb 4 L') (h1 : g < tb) (h2 : tb < bs) : TSt M w0 w' g tb bs pb A n c { C with scr := L' } r :=
 ⟨h.src.kp hp.kp (by simp; omega), hp.ext, h.cat.add hp (by omega) h.ht, h.cls.add hp (by omega) h.ht, h.joi.add hp (by omega) h.ht, h.bid.add hp (by omega) h.ht, h.scr.self hp, h.ign.add hp (by omega) h.ht, fun j hj => (hp.other j (by omega)).trans (h.nils j hj), fun k => (hp.frozen k).trans (h.frz k), Own.kp h.own hp.kp (fun b hb => by have := (h.own.lt b hb).1; simp; omega), h.hg, h.ht, h.hA, fun b hb => Nat.lt_of_lt_of_le (h.hM b hb) hp.kp.size, h.pool.keep (hide_keep' (hp.kp.mono (by intro b hb; simp at hb; subst hb; exact .inl h.ht)))⟩
theorem TSt.add_ign {M : List Nat} {w0 w w' : World} {g tb bs pb n c : Nat} {A : Option Addr} {C : Cols} {r : List Int} {L' : List Sp} (h : TSt M w0 w g tb bs pb A n c C r) (hp : AddPost M w0 w w' tb 6 L') (h1 : g < tb) (h2 : tb < bs) : TSt M w0 w' g tb bs pb A n c { C with ign := L' } r :=
 ⟨h.src.kp hp.kp (by simp; omega), hp.ext, h.cat.add hp (by omega) h.ht, h.cls.add hp (by omega) h.ht, h.joi.add hp (by omega) h.ht, h.bid.add hp (by omega) h.ht, h.scr.add hp (by omega) h.ht, h.ign.self hp, fun j hj => (hp.other j (by omega)).trans (h.nils j hj), fun k => (hp.frozen k).trans (h.frz k), Own.kp h.own hp.kp (fun b hb => by have := (h.own.lt b hb).1; simp; omega), h.hg, h.ht, h.hA, fun b hb => Nat.lt_of_lt_of_le (h.hM b hb) hp.kp.size, h.pool.keep (hide_keep' (hp.kp.mono (by intro b hb; simp at hb; subst hb; exact .inl h.ht)))⟩
theorem ColAt.more {M M' : List Nat} {w w' : World} {tb j : Nat} {L : List Sp} (h : ColAt M w tb j L) (hk : Kp M w w') (h1 : ∀ b ∈ M, b ∈ M') (h2 : ∀ b ∈ M', b ∈ M ∨ w.heap.size ≤ b) (hc : ∀ k, w'.cell? ⟨tb, k, none⟩ = w.cell? ⟨tb, k, none⟩) (hf : ∀ k, w'.frozen? ⟨tb, k, none⟩ = w.frozen? ⟨tb, k, none⟩) : ColAt M' w' tb j L := by
 obtain ⟨A, n, c, g1, g2, g3, g4⟩ := h
 exact ⟨A, n, c, (hc j).trans g1, g2.keep (hide_keep hk h1 h2), (hf j).trans g3, g4.kp hk (fun _ h => .inl h) h2⟩
theorem TSt.stat {M : List Nat} {w0 w w' : World} {g tb bs pb n c n' c' : Nat} {A A' : Option Addr} {C : Cols} {r : List Int} {sta' : List Int} (h : TSt M w0 w g tb bs pb A n c C r) (hown : OwnI w' bs A' n' c' sta') (hgr : w.grownBy w' (blkOf A)) (hat : blkOf A' = blkOf A ∨ blkOf A' = some w.heap.size) (h1 : g < tb) (h2 : tb < bs) (h3 : w0.heap.size ≤ bs) :
  ∃ M', TSt M' w0 w' g tb bs pb A' n' c' { C with sta := sta' } r ∧ (∀ b ∈ M, b ∈ M') ∧ (∀ b ∈ M', b ∈ M ∨ w.heap.size ≤ b) ∧ Kp M w w' := by
 have hkM : Kp M w w' := Kp.ofGrown hgr h.hA
 have hkA : Kp (blkOf A).toList w w' := Kp.ofGrown hgr (by intro b hb; simp [hb])
 have hbl : ∀ b, blkOf A = some b → tb < b := fun b hb => by have := (h.own.lt b hb).1; omega
 have htA : tb ∉ (blkOf A).toList := by intro hm; have := hbl tb (by simpa using hm); omega
 have hgA : g ∉ (blkOf A).toList := by intro hm; have := hbl g (by simpa using hm); omega
 have htl := h.hM tb h.ht
 have hc : ∀ k, w'.cell? ⟨tb, k, none⟩ = w.cell? ⟨tb, k, none⟩ := fun k => hkA.cell ⟨tb, k, none⟩ htl htA
 have hf : ∀ k, w'.frozen? ⟨tb, k, none⟩ = w.frozen? ⟨tb, k, none⟩ := fun k => hkA.frozen ⟨tb, k, none⟩ htl htA
 have hx : Ext w0 w' := ext_of_grown h.ext hgr (fun k hk => by have := (h.own.lt k hk).1; omega)
 obtain ⟨M', m1, m2, m3⟩ : ∃ M' : List Nat, (∀ b ∈ M, b ∈ M') ∧ (∀ b ∈ M', b ∈ M ∨ w.heap.size ≤ b) ∧ (∀ b, blkOf A' = some b → b ∈ M') ∧ (∀ b ∈ M', b < w'.heap.size) := by
  rcases hat with hat | hat
  ·exact ⟨M, fun _ h => h, fun _ h => .inl h, fun b hb => h.hA b (by rw [← hat]; exact hb), fun b hb => Nat.lt_of_lt_of_le (h.hM b hb) hkM.size⟩
  ·refine ⟨w.heap.size :: M, fun b hb => by simp [hb], fun b hb => ?_, fun b hb => ?_, fun b hb => ?_⟩
   ·simp at hb; rcases hb with rfl | hb
    ·exact .inr (Nat.le_refl _)
    ·exact .inl hb
   ·rw [hat] at hb; injection hb with hb; simp [hb]
   ·simp at hb; rcases hb with rfl | hb
    ·exact (hown.lt _ hat).2
    ·exact Nat.lt_of_lt_of_le (h.hM b hb) hkM.size
 exact ⟨M', ⟨h.src.kp hkA hgA, hx, h.cat.more hkM m1 m2 hc hf, h.cls.more hkM m1 m2 hc hf, h.joi.more hkM m1 m2 hc hf, h.bid.more hkM m1 m2 hc hf, h.scr.more hkM m1 m2 hc hf, h.ign.more hkM m1 m2 hc hf, fun j hj => (hc j).trans (h.nils j hj), fun k => (hf k).trans (h.frz k), hown, m1 g h.hg, m1 tb h.ht, m3.1, m3.2, h.pool.keep (hide_keep hkM m1 m2)⟩, m1, m2, hkM⟩
def UAt (w : World) (ub : Nat) (v : List Int) : Prop := v.length = 6 ∧ ∀ j x, v[j]? = some x → w.cell? ⟨ub, j, none⟩ = some (.int .i64 x) ∧ w.frozen? ⟨ub, j, none⟩ = false
theorem UAt.kp {M : List Nat} {w w' : World} {ub : Nat} {v : List Int} (h : UAt w ub v) (hk : Kp M w w') (hm : ub ∉ M) : UAt w' ub v := by
 refine ⟨h.1, fun j x hx => ?_⟩
 obtain ⟨h1, h2⟩ := h.2 j x hx
 have hlt := World.block_lt_of_cell? w _ h1
 exact ⟨by rw [hk.cell _ hlt hm]; exact h1, by rw [hk.frozen ⟨ub, j, none⟩ hlt hm]; exact h2⟩
theorem UAt.set {w : World} {ub : Nat} {v : List Int} (h : UAt w ub v) (j : Nat) (x : Int) (hj : j < 6) : UAt (w.setCell ⟨ub, j, none⟩ (.int .i64 x)) ub (v.set j x) := by
 refine ⟨by simpa using h.1, fun i y hy => ?_⟩
 rw [World.frozen?_setCell]
 by_cases hij : j = i
 ·subst hij
  have hjl : j < v.length := by rw [h.1]; exact hj
  have hy' : y = x := by simpa [hjl] using hy.symm
  subst hy'
  obtain ⟨h1, h2⟩ := h.2 j v[j] (List.getElem?_eq_getElem hjl)
  exact ⟨World.cell?_setCell_same _ _ _ h1, h2⟩
 ·rw [List.getElem?_set_ne hij] at hy
  obtain ⟨h1, h2⟩ := h.2 i y hy
  exact ⟨by rw [World.cell?_setCell_other _ _ _ _ (by intro e; injection e with _ e; exact hij e)]; exact h1, h2⟩
structure ChSt (w0 wo w : World) (g ub : Nat) (r v : List Int) : Prop where
 src : Src w0 w g r
 ext : Ext w0 w
 kp : Kp [g] wo w
 u : UAt w ub v
theorem ChSt.chosen {w0 wo w x : World} {g ub : Nat} {r r' v : List Int} (h : ChSt w0 wo w g ub r v) (hs : Src w0 x g r') (hk : Kp [g] w x) (hb : Ext w0 x) (j : Nat) (y : Int) (hj : j < 6) (h1 : g < ub) (h2 : wo.heap.size ≤ ub) (h3 : w0.heap.size ≤ ub) :
  ChSt w0 wo (x.setCell ⟨ub, j, none⟩ (.int .i64 y)) g ub r' (v.set j y) := by
 have hks : Kp [ub] x (x.setCell ⟨ub, j, none⟩ (.int .i64 y)) := Kp.setCell _ _ _ _ (by simp)
 refine ⟨hs.kp hks (by simp; omega), hb.setCell_ h3 _, ?_, (h.u.kp hk (by simp; omega)).set j y hj⟩
 have k1 : Kp [g, ub] wo x := (h.kp.trans hk).mono (by intro b hb; simp at hb; subst hb; exact .inl (by simp))
 have k2 : Kp [g, ub] x (x.setCell ⟨ub, j, none⟩ (.int .i64 y)) := hks.mono (by intro b hb; simp at hb; subst hb; exact .inl (by simp))
 exact (k1.trans k2).mono (by intro b hb; simp at hb; exact hb.elim (fun e => .inl (by simp [e])) (fun e => .inr (by omega)))
structure UX (w : World) (ub xb : Nat) (u : Us) (cc : Int) : Prop where
 c0 : w.cell? ⟨ub, 0, none⟩ = some (.int .i64 u.cat)
 c1 : w.cell? ⟨ub, 1, none⟩ = some (.int .i64 u.cls)
 c2 : w.cell? ⟨ub, 2, none⟩ = some (.int .i64 u.joi)
 c3 : w.cell? ⟨ub, 3, none⟩ = some (.int .i64 u.bid)
 c4 : w.cell? ⟨ub, 4, none⟩ = some (.int .i64 u.scr)
 c5 : w.cell? ⟨ub, 5, none⟩ = some (.int .i64 u.sta)
 x0 : w.cell? ⟨xb, 0, none⟩ = some (.int .i64 cc)
 x1 : w.cell? ⟨xb, 1, none⟩ = some (.int .i64 cc)
 x2 : w.cell? ⟨xb, 2, none⟩ = some (.int .i64 0)
theorem UX.kp {w w' : World} {ub xb : Nat} {u : Us} {cc : Int} {M : List Nat} (h : UX w ub xb u cc) (hk : Kp M w w') (h1 : ub ∉ M) (h2 : xb ∉ M) : UX w' ub xb u cc := by
 have hu : ub < w.heap.size := World.block_lt_of_cell? w _ h.c0
 have hx : xb < w.heap.size := World.block_lt_of_cell? w _ h.x0
 exact ⟨(hk.cell ⟨ub, 0, none⟩ hu h1).trans h.c0, (hk.cell ⟨ub, 1, none⟩ hu h1).trans h.c1, (hk.cell ⟨ub, 2, none⟩ hu h1).trans h.c2, (hk.cell ⟨ub, 3, none⟩ hu h1).trans h.c3, (hk.cell ⟨ub, 4, none⟩ hu h1).trans h.c4, (hk.cell ⟨ub, 5, none⟩ hu h1).trans h.c5,
  (hk.cell ⟨xb, 0, none⟩ hx h2).trans h.x0, (hk.cell ⟨xb, 1, none⟩ hx h2).trans h.x1, (hk.cell ⟨xb, 2, none⟩ hx h2).trans h.x2⟩
def Cols.small (C : Cols) (k : Nat) : Prop := C.cat.length ≤ k ∧ C.cls.length ≤ k ∧ C.joi.length ≤ k ∧ C.bid.length ≤ k ∧ C.scr.length ≤ k ∧ C.ign.length ≤ k
structure TabAt (N : List Nat) (w : World) (tb : Nat) (t : TV) (T : Tbl) : Prop where
 cells : Tcells w tb t
 cat : SpanS (hide N w) t.s0 T.cat
 cls : SpanS (hide N w) t.s1 T.cls
 joi : SpanS (hide N w) t.s2 T.joi
 bid : SpanS (hide N w) t.s3 T.bid
 scr : SpanS (hide N w) t.s4 T.scr
 sta : SpanS (hide N w) t.s5 T.sta
 ign : SpanS (hide N w) t.s6 T.ign
 ext : MapS (hide N w) t.s7 T.ext
 mps : MapS (hide N w) t.s8 T.mps
 dec : MapS (hide N w) t.s9 T.dec
 exc : IntS (hide N w) t.s10 T.exc
 pro : MapS (hide N w) t.s11 T.pro
theorem TabAt.keep {N : List Nat} {w w' : World} {tb : Nat} {t : TV} {T : Tbl} (h : TabAt N w tb t T) (hk : Kp N w w') (hc : ∀ j, w'.cell? ⟨tb, j, none⟩ = w.cell? ⟨tb, j, none⟩) : TabAt N w' tb t T :=
 ⟨h.cells.same hc, h.cat.keep (hide_keep' hk), h.cls.keep (hide_keep' hk), h.joi.keep (hide_keep' hk), h.bid.keep (hide_keep' hk), h.scr.keep (hide_keep' hk), h.sta.keep (hide_keep' hk), h.ign.keep (hide_keep' hk), MapS.keep h.ext (hide_keep' hk), h.mps.keep (hide_keep' hk), h.dec.keep (hide_keep' hk), h.exc.keep (hide_keep' hk), h.pro.keep (hide_keep' hk)⟩
theorem ColAt.cell {M : List Nat} {w : World} {tb j : Nat} {L : List Sp} {s : SV} (h : ColAt M w tb j L) (hc : w.cell? ⟨tb, j, none⟩ = some (.slice s.a s.n s.c)) : SpanS (hide M w) s L := by
 obtain ⟨A, n, c, h1, h2, _⟩ := h
 rw [hc] at h1
 injection h1 with h1
 injection h1 with e1 e2 e3
 obtain ⟨sa, sn, sc⟩ := s
 simp only at e1 e2 e3
 subst e1 e2 e3
 exact h2
theorem SV.eq_of {s : SV} {A : Option Addr} {n c : Nat} {w : World} {p : Addr} (h1 : w.cell? p = some (.slice s.a s.n s.c)) (h2 : w.cell? p = some (.slice A n c)) : s = ⟨A, n, c⟩ := by
 rw [h1] at h2
 injection h2 with h2
 injection h2 with e1 e2 e3
 obtain ⟨sa, sn, sc⟩ := s
 simp only at e1 e2 e3
 subst e1 e2 e3
 rfl
theorem tab_parts {w0 wr w5 w6 w7 : World} {g tb pb c6 n9 c9 n10 c10 n8 c8 n11 c11 q7 : Nat} {M M5 M6 M7 : List Nat} {A6 A9 A10 A8 A11 : Option Addr} {C : Cols} {D : Decs} {MM : Mps} {P : List Mp} {r r5 r6 r7 st6 : List Int} (hgt : g < tb)
  (hT : TSt M w0 wr g tb (tb + 1) pb A6 28 c6 C r) (hD : DSt wr w0 w5 g tb wr.heap.size (blkOf A6).toList M5 A9 n9 c9 A10 n10 c10 D r5) (hM : MSt w5 w0 w6 g tb w5.heap.size w5.heap.size M6 A8 n8 c8 A6 28 c6 st6 MM r6)
  (hP : PSt w6 w0 w7 g tb w6.heap.size q7 M7 A11 n11 c11 C.ign P r7) : ∃ t : TV, TabAt [g, tb] w7 tb t (mkT C D MM P []) ∧ t.s7 = nilSV ∧ Fr M w7 tb t.s1.a := by
 have htl : tb < wr.heap.size := hT.hM tb hT.ht
 have h5s := hD.kp.size
 have h6s := hM.kp.size
 have hc67 : ∀ k, k ≠ 11 → w7.cell? ⟨tb, k, none⟩ = w6.cell? ⟨tb, k, none⟩ := hP.oth
 have hc56 : ∀ k, k ≠ 5 → k ≠ 8 → w6.cell? ⟨tb, k, none⟩ = w5.cell? ⟨tb, k, none⟩ := hM.oth
 have hcr5 : ∀ k, k ≠ 9 → k ≠ 10 → w5.cell? ⟨tb, k, none⟩ = wr.cell? ⟨tb, k, none⟩ := hD.oth
 have hcr7 : ∀ k, k ≠ 5 → k ≠ 8 → k ≠ 9 → k ≠ 10 → k ≠ 11 → w7.cell? ⟨tb, k, none⟩ = wr.cell? ⟨tb, k, none⟩ := fun k k5 k8 k9 k10 k11 => ((hc67 k k11).trans (hc56 k k5 k8)).trans (hcr5 k k9 k10)
 have v7 : w7.cell? ⟨tb, 7, none⟩ = some (.slice none 0 0) := (hcr7 7 (by omega) (by omega) (by omega) (by omega) (by omega)).trans (hT.nils 7 (by omega))
 have v8 : w7.cell? ⟨tb, 8, none⟩ = some (.slice A8 n8 c8) := (hc67 8 (by omega)).trans hM.v8
 have v9 : w7.cell? ⟨tb, 9, none⟩ = some (.slice A9 n9 c9) := ((hc67 9 (by omega)).trans (hc56 9 (by omega) (by omega))).trans hD.v9
 have v10 : w7.cell? ⟨tb, 10, none⟩ = some (.slice A10 n10 c10) := ((hc67 10 (by omega)).trans (hc56 10 (by omega) (by omega))).trans hD.v10
 have v11 := hP.v11
 have hE : ∀ b, b ∈ (blkOf A6).toList ↔ blkOf A6 = some b := by intro b; simp
 have kM : Kp M wr w7 := ((hD.kp.mono (M' := M) fun b hb => by
   simp at hb; rcases hb with rfl | rfl
   ·exact .inl hT.hg
   ·exact .inl hT.ht).trans (hM.kp.mono (M' := M) fun b hb => by
   rw [List.mem_cons, List.mem_cons] at hb
   rcases hb with rfl | rfl | hb
   ·exact .inl hT.hg
   ·exact .inl hT.ht
   ·exact .inl (hT.hA b ((hE b).1 hb)))).trans (hP.kp.mono (M' := M) fun b hb => by
   simp at hb; rcases hb with rfl | rfl
   ·exact .inl hT.hg
   ·exact .inl hT.ht)
 have hless : ∀ b ∈ [g, tb], b ∈ M := by intro b hb; simp at hb; rcases hb with rfl | rfl; exact hT.hg; exact hT.ht
 have col7 : ∀ j L, ColAt M wr tb j L → j ≠ 5 → j ≠ 8 → j ≠ 9 → j ≠ 10 → j ≠ 11 → ∃ A n c, w7.cell? ⟨tb, j, none⟩ = some (.slice A n c) ∧ SpanS (hide [g, tb] w7) ⟨A, n, c⟩ L ∧ Fr M w7 tb A := by
  intro j L ⟨A, n, c, e1, e2, _, e4⟩ k5 k8 k9 k10 k11
  exact ⟨A, n, c, (hcr7 j k5 k8 k9 k10 k11).trans e1, (e2.keep (hide_keep' kM)).sub fun p v hp => hide_less hless hp, e4.kp kM (fun _ h => .inl h) (fun _ h => .inl h)⟩
 obtain ⟨a0, n0, c0, e0, s0, _⟩ := col7 0 _ hT.cat (by omega) (by omega) (by omega) (by omega) (by omega)
 obtain ⟨a1, n1, c1, e1, s1, f1⟩ := col7 1 _ hT.cls (by omega) (by omega) (by omega) (by omega) (by omega)
 obtain ⟨a2, n2, c2, e2, s2, _⟩ := col7 2 _ hT.joi (by omega) (by omega) (by omega) (by omega) (by omega)
 obtain ⟨a3, n3, c3, e3, s3, _⟩ := col7 3 _ hT.bid (by omega) (by omega) (by omega) (by omega) (by omega)
 obtain ⟨a4, n4, c4, e4, s4, _⟩ := col7 4 _ hT.scr (by omega) (by omega) (by omega) (by omega) (by omega)
 obtain ⟨a6, n6, cc6, e6, s6, _⟩ := col7 6 _ hT.ign (by omega) (by omega) (by omega) (by omega) (by omega)
 have hM2 : ∀ b ∈ [g, tb], b ∈ M6 := by intro b hb; simp at hb; rcases hb with rfl | rfl; exact hM.hg; exact hM.ht
 obtain ⟨a5, n5, c5, e5, s5, _⟩ := hM.col
 have e5' := (hc67 5 (by omega)).trans e5
 have s5' := ((s5.sub fun p v hp => hide_less hM2 hp).keep (hide_keep' hP.kp))
 have m8 := (hM.o8.maps (M' := [g, tb]) (fun b hb => by have := (hM.o8.lt b hb).1; simp; omega) hM2).keep (hide_keep' hP.kp)
 have hM3 : ∀ b ∈ g :: tb :: (blkOf A6).toList, b ∈ M5 := by
  intro b hb
  rw [List.mem_cons, List.mem_cons] at hb
  rcases hb with rfl | rfl | hb
  ·exact hD.hg
  ·exact hD.ht
  ·exact (hD.hE b hb).1
 have hgr : g < wr.heap.size := by omega
 have m9 := ((hD.o9.maps (M' := g :: tb :: (blkOf A6).toList) (fun b hb hm => by
   have h1 := (hD.o9.lt b hb).1
   rw [List.mem_cons, List.mem_cons] at hm
   rcases hm with rfl | rfl | hm
   ·omega
   ·omega
   ·have := (hD.hE b hm).2; omega) hM3).keep (hide_keep' hM.kp))
 have m9' := (m9.sub fun p v hp => hide_less (M' := [g, tb]) (by intro b hb; simp at hb; rcases hb with rfl | rfl <;> simp) hp).keep (hide_keep' hP.kp)
 have o10 : OwnI w7 wr.heap.size A10 n10 c10 D.exc := Own.kp (Own.kp hD.o10 hM.kp (fun b hb hm => by
   have h1 := (Own.lt hD.o10 b hb).1
   rw [List.mem_cons, List.mem_cons] at hm
   rcases hm with rfl | rfl | hm
   ·omega
   ·omega
   ·have := (hD.hE b hm).2; omega)) hP.kp (fun b hb => by have h1 := (Own.lt hD.o10 b hb).1; simp; omega)
 have i10 : IntS (hide [g, tb] w7) ⟨A10, n10, c10⟩ D.exc := by
  have h1 := OwnI.ints o10
  refine ⟨h1.1, fun i x hx => ?_⟩
  obtain ⟨b, o, ha, hc⟩ := h1.2 i x hx
  refine ⟨b, o, ha, ?_⟩
  simp only at ha
  subst ha
  have h2 := (Own.lt o10 b rfl).1
  rw [hide_cell, if_neg (by simp; omega)]
  exact hc
 have m11 := hP.o11.maps (M' := [g, tb]) (fun b hb => by have := (hP.o11.lt b hb).1; simp; omega) (by intro b hb; simp at hb; rcases hb with rfl | rfl; exact hP.hg; exact hP.ht)
 exact ⟨⟨⟨a0, n0, c0⟩, ⟨a1, n1, c1⟩, ⟨a2, n2, c2⟩, ⟨a3, n3, c3⟩, ⟨a4, n4, c4⟩, ⟨a5, n5, c5⟩, ⟨a6, n6, cc6⟩, nilSV, ⟨A8, n8, c8⟩, ⟨A9, n9, c9⟩, ⟨A10, n10, c10⟩, ⟨A11, n11, c11⟩⟩,
  ⟨⟨e0, e1, e2, e3, e4, e5', e6, v7, v8, v9, v10, v11⟩, s0, s1, s2, s3, s4, s5', s6, MapS.nil_ _, m8, m9', i10, m11⟩, rfl, f1⟩
theorem IntS.apart {w w' : World} {rb : Nat} {s : SV} {l : List Int} (h : IntS w s l) (hk : Kp [rb] w w') (hr : ∀ j x, w.cell? ⟨rb, j, none⟩ ≠ some (.int .i64 x)) : IntS w' s l := by
 refine ⟨h.1, fun i x hx => ?_⟩
 obtain ⟨b, o, ha, hc⟩ := h.2 i x hx
 have hb : b ≠ rb := fun e => hr _ _ (e ▸ hc)
 exact ⟨b, o, ha, (hk.cell ⟨b, o + i, none⟩ (World.block_lt_of_cell? _ _ hc) (by simpa using hb)).trans hc⟩
theorem SpanS.apart {w w' : World} {rb : Nat} {s : SV} {l : List Sp} (h : SpanS w s l) (hk : Kp [rb] w w') (hr : ∀ j x, w.cell? ⟨rb, j, none⟩ ≠ some (.int .i64 x)) : SpanS w' s l := by
 refine ⟨h.1, fun i x hx => ?_⟩
 obtain ⟨b, o, ha, h0, h1, h2⟩ := h.2 i x hx
 have hb : b ≠ rb := fun e => hr _ _ (e ▸ h0)
 have hl : b < w.heap.size := World.block_lt_of_cell? _ _ h0
 have hn : b ∉ [rb] := by simpa using hb
 exact ⟨b, o, ha, (hk.cell ⟨b, _, none⟩ hl hn).trans h0, (hk.cell ⟨b, _, none⟩ hl hn).trans h1, (hk.cell ⟨b, _, none⟩ hl hn).trans h2⟩
theorem MapS.apart {w w' : World} {rb : Nat} {s : SV} {l : List Mp} (h : MapS w s l) (hk : Kp [rb] w w') (hr : ∀ j x, w.cell? ⟨rb, j, none⟩ ≠ some (.int .i64 x)) : MapS w' s l := by
 refine ⟨h.1, fun i x hx => ?_⟩
 obtain ⟨b, o, za, zn, zc, ha, h0, h1, h2⟩ := h.2 i x hx
 have hb : b ≠ rb := fun e => hr _ _ (e ▸ h0)
 have hl : b < w.heap.size := World.block_lt_of_cell? _ _ h0
 have hn : b ∉ [rb] := by simpa using hb
 exact ⟨b, o, za, zn, zc, ha, (hk.cell ⟨b, _, none⟩ hl hn).trans h0, (hk.cell ⟨b, _, none⟩ hl hn).trans h1, h2.apart hk hr⟩
theorem SpanS.seen {N : List Nat} {w : World} {s : SV} {l : List Sp} (h : SpanS (hide N w) s l) : SpanS w s l := h.sub fun _ _ => hide_sub
theorem MapS.seen {N : List Nat} {w : World} {s : SV} {l : List Mp} (h : MapS (hide N w) s l) : MapS w s l := h.sub fun _ _ => hide_sub
theorem IntS.seen {N : List Nat} {w : World} {s : SV} {l : List Int} (h : IntS (hide N w) s l) : IntS w s l := h.sub fun _ _ => hide_sub
theorem TabAt.done {N : List Nat} {w w' : World} {tb rb : Nat} {t : TV} {T : Tbl} (h : TabAt N w tb t T) (hk : Kp [rb] w w') (hr : ∀ j x, w.cell? ⟨rb, j, none⟩ ≠ some (.int .i64 x)) (hg : Glob w') : TblS w' t T :=
 ⟨(SpanS.seen h.cat).apart hk hr, (SpanS.seen h.cls).apart hk hr, (SpanS.seen h.joi).apart hk hr, (SpanS.seen h.bid).apart hk hr, (SpanS.seen h.scr).apart hk hr, (SpanS.seen h.sta).apart hk hr, (SpanS.seen h.ign).apart hk hr, (MapS.seen h.ext).apart hk hr, (MapS.seen h.mps).apart hk hr, (MapS.seen h.dec).apart hk hr, (IntS.seen h.exc).apart hk hr, (MapS.seen h.pro).apart hk hr, hg⟩
def nil12 : Array Value := #[.slice none 0 0, .slice none 0 0, .slice none 0 0, .slice none 0 0, .slice none 0 0, .slice none 0 0, .slice none 0 0, .slice none 0 0, .slice none 0 0, .slice none 0 0, .slice none 0 0, .slice none 0 0]
theorem kp_setRow (w : World) (g : Nat) (cs : Array Value) : Kp [g] w (w.setRow g cs) := by
 refine ⟨rfl, rfl, rfl, by simp, fun k _ hm => ?_⟩
 have hne : g ≠ k := fun e => hm (by simp [e])
 simp [World.setRow, Array.getElem?_modify, hne]
theorem tab_fin {w w0 w9 : World} {tb : Nat} {N : List Nat} {t : TV} {T : Tbl} {ty : TypeId} (hw0 : w0 = w.alloc (.cells nil12 ty)) (hx : Ext w0 w9) (h : TabAt N w9 tb t T) (hg : Glob w) :
  w9.heap[w.heap.size]? = some (.cells nil12 ty (0, 0)) ∧ TblS (w9.setRow w.heap.size t.v.cells) t T ∧ Ext w (w9.setRow w.heap.size t.v.cells) := by
 have hz : w.heap.size < w0.heap.size := by rw [hw0]; simp
 have hb : w9.heap[w.heap.size]? = some (.cells nil12 ty (0, 0)) := by rw [hx.b.block _ hz, hw0]; exact heap_alloc_new w _
 have hwx : Ext w w9 := (show Ext w w0 by rw [hw0]; exact (Ext.refl _).alloc_ _).trans' hx
 have hk := kp_setRow w9 w.heap.size t.v.cells
 have hfin : Ext w (w9.setRow w.heap.size t.v.cells) := ⟨hwx.b.os, hwx.b.tape, hwx.b.output, Nat.le_trans hwx.b.size hk.size, fun k hk' => (hk.block k (Nat.lt_of_lt_of_le hk' hwx.b.size) (by simp; omega)).trans (hwx.b.block k hk')⟩
 refine ⟨hb, h.done hk (fun j x hc => ?_) (hg.ext hfin), hfin⟩
 rw [cell_of_row w9 _ j _ _ _ hb] at hc
 match j, hc with
 | 0, hc | 1, hc | 2, hc | 3, hc | 4, hc | 5, hc | 6, hc | 7, hc | 8, hc | 9, hc | 10, hc | 11, hc => injection hc with hc; cases hc
 | j + 12, hc => simp [nil12] at hc
theorem TabAt.ext7 {w : World} {g tb : Nat} {t : TV} {T : Tbl} (h : TabAt [g, tb] w tb t T) (hgl : g < w.heap.size) (htl : tb < w.heap.size) (t1 t2 : TypeId) :
  TabAt [g, tb] (((w.setCell ⟨tb, 7, none⟩ (.slice (some ⟨w.heap.size + 1, 0, none⟩) 1 1)).alloc (.cells #[.int .i64 7, .int .i64 8] t1)).alloc (.cells #[.int .i64 12539, .slice (some ⟨w.heap.size, 0, none⟩) 2 2] t2)) tb { t with s7 := ⟨some ⟨w.heap.size + 1, 0, none⟩, 1, 1⟩ } { T with ext := [⟨12539, [7, 8]⟩] } := by
 obtain ⟨w0, hw0⟩ : ∃ w0, w0 = w.setCell ⟨tb, 7, none⟩ (.slice (some ⟨w.heap.size + 1, 0, none⟩) 1 1) := ⟨_, rfl⟩
 obtain ⟨w1, hw1⟩ : ∃ w1, w1 = w0.alloc (.cells #[.int .i64 7, .int .i64 8] t1) := ⟨_, rfl⟩
 obtain ⟨w2, hw2⟩ : ∃ w2, w2 = w1.alloc (.cells #[.int .i64 12539, .slice (some ⟨w.heap.size, 0, none⟩) 2 2] t2) := ⟨_, rfl⟩
 rw [← hw0, ← hw1, ← hw2]
 have z0 : w0.heap.size = w.heap.size := by rw [hw0]; simp
 have x1 : Ext w0 w1 := by rw [hw1]; exact (Ext.refl _).alloc_ _
 have x2 : Ext w1 w2 := by rw [hw2]; exact (Ext.refl _).alloc_ _
 have z1 : w1.heap.size = w.heap.size + 1 := by rw [hw1]; simp [z0]
 have i1 : IntS w1 ⟨some ⟨w.heap.size, 0, none⟩, 2, 2⟩ [7, 8] := by rw [hw1]; exact ints_at z0 [7, 8] _ (by simp [maxLen])
 have hk : Kp [g, tb] w w2 := (show Kp [g, tb] w w0 by rw [hw0]; exact Kp.setCell _ _ _ _ (by simp)).trans (Kp.ofExt (x1.trans' x2))
 have hc2 : ∀ j, w2.cell? ⟨tb, j, none⟩ = w0.cell? ⟨tb, j, none⟩ := fun j => (x1.trans' x2).b.cell (p := ⟨tb, j, none⟩) (by show tb < w0.heap.size; omega)
 have hoth : ∀ j, j ≠ 7 → w2.cell? ⟨tb, j, none⟩ = w.cell? ⟨tb, j, none⟩ := fun j hj => by
  rw [hc2, hw0, World.cell?_setCell_other _ _ _ _ (by intro e; injection e with _ e; exact hj e.symm)]
 have h7 : w2.cell? ⟨tb, 7, none⟩ = some (.slice (some ⟨w.heap.size + 1, 0, none⟩) 1 1) := by rw [hc2, hw0]; exact World.cell?_setCell_same _ _ _ h.cells.c7
 have hnew : ∀ j, (hide [g, tb] w2).cell? ⟨w.heap.size + 1, j, none⟩ = (#[.int .i64 12539, .slice (some ⟨w.heap.size, 0, none⟩) 2 2] : Array Value)[j]? := fun j => by
  rw [hide_cell, if_neg (by simp; omega), hw2, ← z1]
  exact World.cell?_alloc_new _ _ _ j
 have hto : IntS (hide [g, tb] w2) ⟨some ⟨w.heap.size, 0, none⟩, 2, 2⟩ [7, 8] := (i1.ext x2).hide_ (M := [g, tb]) (by simp; omega)
 refine ⟨⟨(hoth 0 (by omega)).trans h.cells.c0, (hoth 1 (by omega)).trans h.cells.c1, (hoth 2 (by omega)).trans h.cells.c2, (hoth 3 (by omega)).trans h.cells.c3, (hoth 4 (by omega)).trans h.cells.c4, (hoth 5 (by omega)).trans h.cells.c5, (hoth 6 (by omega)).trans h.cells.c6, h7, (hoth 8 (by omega)).trans h.cells.c8, (hoth 9 (by omega)).trans h.cells.c9, (hoth 10 (by omega)).trans h.cells.c10, (hoth 11 (by omega)).trans h.cells.c11⟩,
  h.cat.keep (hide_keep' hk), h.cls.keep (hide_keep' hk), h.joi.keep (hide_keep' hk), h.bid.keep (hide_keep' hk), h.scr.keep (hide_keep' hk), h.sta.keep (hide_keep' hk), h.ign.keep (hide_keep' hk), ⟨⟨rfl, Nat.le_refl _, by simp [maxLen]⟩, fun i x hx => ?_⟩, h.mps.keep (hide_keep' hk), h.dec.keep (hide_keep' hk), h.exc.keep (hide_keep' hk), h.pro.keep (hide_keep' hk)⟩
 match i, hx with
 | 0, hx => simp at hx; subst hx; exact ⟨_, 0, _, _, _, rfl, hnew 0, hnew 1, hto⟩
 | i + 1, hx => simp at hx
theorem tv_all (t : TV) : t.v.cells.all (·.oneCell') = true := by simp [TV.v, Value.cells, Value.oneCell']
theorem Tcells.range {w : World} {tb : Nat} {t : TV} (h : Tcells w tb t) : w.rangeAt tb 0 [.slice t.s0.a t.s0.n t.s0.c, .slice t.s1.a t.s1.n t.s1.c, .slice t.s2.a t.s2.n t.s2.c, .slice t.s3.a t.s3.n t.s3.c, .slice t.s4.a t.s4.n t.s4.c, .slice t.s5.a t.s5.n t.s5.c, .slice t.s6.a t.s6.n t.s6.c, .slice t.s7.a t.s7.n t.s7.c, .slice t.s8.a t.s8.n t.s8.c, .slice t.s9.a t.s9.n t.s9.c, .slice t.s10.a t.s10.n t.s10.c, .slice t.s11.a t.s11.n t.s11.c] := by
 intro j v hj
 rw [Nat.zero_add]
 match j, hj with
 | 0, hj => simp at hj; subst hj; exact h.c0
 | 1, hj => simp at hj; subst hj; exact h.c1
 | 2, hj => simp at hj; subst hj; exact h.c2
 | 3, hj => simp at hj; subst hj; exact h.c3
 | 4, hj => simp at hj; subst hj; exact h.c4
 | 5, hj => simp at hj; subst hj; exact h.c5
 | 6, hj => simp at hj; subst hj; exact h.c6
 | 7, hj => simp at hj; subst hj; exact h.c7
 | 8, hj => simp at hj; subst hj; exact h.c8
 | 9, hj => simp at hj; subst hj; exact h.c9
 | 10, hj => simp at hj; subst hj; exact h.c10
 | 11, hj => simp at hj; subst hj; exact h.c11
 | j + 12, hj => simp at hj
end Go.Proofs.YtbdabjhankgcmaaGreatDoor
namespace Go.Proofs.YtbdabjhankgcmaaGreatDoor
open Go.RowKit
def TabOwn (w : World) (l : List Int) (e : Ending) (w' : World) : Prop := ∃ t : TV, e = .returned t.v ∧ TblS w' t (madeT l) ∧ Ext w w' ∧ ∀ b, blkOf t.s1.a = some b → w.heap.size ≤ b ∧ b < w'.heap.size ∧ ∀ k : Nat, w'.frozen? ⟨b, k, none⟩ = false
theorem fr_fin {M : List Nat} {w w8 w9 : World} {tb : Nat} {A : Option Addr} (h : Fr M w8 tb A) (hz : w.heap.size ≤ tb) (hk : Kp [w.heap.size] w8 w9) : ∀ b, blkOf A = some b → w.heap.size ≤ b ∧ b < w9.heap.size ∧ ∀ k : Nat, w9.frozen? ⟨b, k, none⟩ = false := fun b hb => by
 obtain ⟨h1, _, h3, h4⟩ := h b hb
 exact ⟨by omega, Nat.lt_of_lt_of_le h3 hk.size, fun k => by rw [hk.frozen ⟨b, k, none⟩ h3 (by simp; omega)]; exact h4 k⟩
def TabPost (w : World) (l : List Int) (e : Ending) (w' : World) : Prop := ∃ t : TV, e = .returned t.v ∧ TblS w' t (madeT l) ∧ Ext w w'
set_option maxHeartbeats 1600000 in
set_option maxRecDepth 100000 in
theorem tables_own (l : List Int) (A : Option Addr) (n c : Nat) (w : World) (h : IntS w ⟨A, n, c⟩ l) (hglob : Glob w) :
  Calls Tryz.prog 13 #[.slice A n c] w (TabOwn w l) := by
 have HGL := Lib.hid hglob
 clear hglob
 have HI := Lib.hid h
 have hba : Ext w (w.alloc (.cells #[.slice none 0 0, .slice none 0 0, .slice none 0 0, .slice none 0 0, .slice none 0 0, .slice none 0 0, .slice none 0 0, .slice none 0 0, .slice none 0 0, .slice none 0 0, .slice none 0 0, .slice none 0 0] 26)) := (Ext.refl _).alloc_ _
 go_enter Tryz.func13, Tryz.ntmps13
 go_wp2_with fail
 refine (from_spec l A n c _ (HI.out.ext hba)).mono ?_
 rintro e w1 ⟨rfl, hs1, hb1⟩
 obtain ⟨w0, hw0⟩ : ∃ w0, w0 = w.alloc (.cells #[.slice none 0 0, .slice none 0 0, .slice none 0 0, .slice none 0 0, .slice none 0 0, .slice none 0 0, .slice none 0 0, .slice none 0 0, .slice none 0 0, .slice none 0 0, .slice none 0 0, .slice none 0 0] 26) := ⟨_, rfl⟩
 have hz0 : w0.heap.size = w.heap.size + 1 := by rw [hw0]; simp
 rw [← hw0] at hs1 hb1 hba
 have HW0 := Lib.hid hw0
 clear hw0
 rw [hz0] at hs1
 have hgl : w.heap.size + 1 < w1.heap.size := by
  obtain ⟨_, _, _, _, _, _, _, h2, _⟩ := hs1
  exact World.block_lt_of_cell? w1 _ h2
 go_wp2_with fail
 obtain ⟨w2, hw2⟩ : ∃ w2, w2 = w1.alloc (.cells #[.slice none 0 0, .slice none 0 0, .slice none 0 0, .slice none 0 0, .slice none 0 0, .slice none 0 0, .slice none 0 0, .slice none 0 0, .slice none 0 0, .slice none 0 0, .slice none 0 0, .slice none 0 0] 26) := ⟨_, rfl⟩
 rw [← hw2]
 have hb12 : Ext w1 w2 := by rw [hw2]; exact (Ext.refl _).alloc_ _
 have hz2 : w2.heap.size = w1.heap.size + 1 := by rw [hw2]; simp
 have hnil : ∀ j, j < 12 → w2.cell? ⟨w1.heap.size, j, none⟩ = some (.slice none 0 0) := by
  intro j hj
  rw [hw2, World.cell?_alloc_new]
  match j, hj with
  | 0, _ | 1, _ | 2, _ | 3, _ | 4, _ | 5, _ | 6, _ | 7, _ | 8, _ | 9, _ | 10, _ | 11, _ => rfl
 have hfrz : ∀ k, w2.frozen? ⟨w1.heap.size, k, none⟩ = false := by
  intro k
  rw [hw2]; simp
 have hs2 : Src w0 w2 (w.heap.size + 1) l := hs1.kp (M := []) (Kp.ofExt hb12) (by simp)
 have htb0 : w0.heap.size ≤ w1.heap.size := hb1.b.size
 clear hw2
 generalize hT : w1.heap.size = tb at *
 generalize hg : w.heap.size + 1 = g at *
 have hb02 := hb1.trans' hb12
 have HS2 := Lib.hid hs2
 have HN := Lib.hid hnil
 have HF := Lib.hid hfrz
 have HG := Lib.hid hg
 have HTB := Lib.hid hT
 clear hs1 hs2 hnil hfrz hg hT hb12 hb1
 refine (next_spec w0 w2 g l 3 (by decide) (by decide) HS2.out hb02).mono ?_
 rintro e w3 ⟨rfl, hs3, hk3, hb3⟩
 have HS3 := Lib.hid hs3
 have htb2 : tb < w2.heap.size := by omega
 have HN3 : Hid (∀ j, j < 12 → w3.cell? ⟨tb, j, none⟩ = some (.slice none 0 0)) := Lib.hid (fun j hj => (hk3.cell ⟨tb, j, none⟩ htb2 (by simp; omega)).trans (HN.out j hj))
 have HF3 : Hid (∀ k, w3.frozen? ⟨tb, k, none⟩ = false) := Lib.hid (fun k => (hk3.frozen ⟨tb, k, none⟩ htb2 (by simp; omega)).trans (HF.out k))
 have hz3 := hk3.size
 obtain ⟨wild, hwild⟩ : ∃ b, (nxV 3 l == 0) = b := ⟨_, rfl⟩
 have HW := Lib.hid hwild
 clear hs3 HS2 HN HF hk3
 go_wp2_with fail
 clear hwild
 refine (pool_spec _).mono ?_
 rintro e w4 ⟨rfl, hp4, hb4⟩
 have hb04 := hb3.trans' hb4
 have HS4 := Lib.hid (HS3.out.kp (M := []) (Kp.ofExt hb4) (by simp))
 have htb3 : tb < w3.heap.size := by omega
 have HN4 : Hid (∀ j, j < 12 → w4.cell? ⟨tb, j, none⟩ = some (.slice none 0 0)) := Lib.hid (fun j hj => (hb4.b.cell (p := ⟨tb, j, none⟩) htb3).trans (HN3.out j hj))
 have HF4 : Hid (∀ k, w4.frozen? ⟨tb, k, none⟩ = false) := Lib.hid (fun k => (hb4.b.frozen (p := ⟨tb, k, none⟩) htb3).trans (HF3.out k))
 have HP4 := Lib.hid (hp4.hide_ (M := [g, tb]) (by simp; omega))
 have hz4 := hb4.b.size
 generalize w3.heap.size = pb at *
 have HGT : Hid (g < tb) := Lib.hid (by omega)
 have HW0T : Hid (w0.heap.size ≤ tb) := Lib.hid htb0
 clear hp4 HS3 HN3
 go_wp2_with fail
 go_loopg [6, 21] 28 (fun gh s6 s21 wx => ∃ (M : List Nat) (k : Nat) (A6 : Option Addr) (c6 : Nat) (C : Cols) (r : List Int), k + gh = 28 ∧ s6 = .slice A6 k c6 ∧ s21 = .int .i64 k ∧ TSt M w0 wx g tb (tb + 1) pb A6 k c6 C r ∧ C.small k ∧ Hid (madeC l = runC wild (poolL.drop k) C r) ∧ tb + 1 ≤ wx.heap.size)
 case atStart =>
  exact ⟨[g, tb], 0, none, 0, nilCols, l.tail, rfl, rfl, rfl, ⟨HS4.out, hb04, ColAt.nil_ (HN4.out 0 (by omega)) (HF4.out 0), ColAt.nil_ (HN4.out 1 (by omega)) (HF4.out 1), ColAt.nil_ (HN4.out 2 (by omega)) (HF4.out 2), ColAt.nil_ (HN4.out 3 (by omega)) (HF4.out 3), ColAt.nil_ (HN4.out 4 (by omega)) (HF4.out 4), ColAt.nil_ (HN4.out 6 (by omega)) (HF4.out 6), fun j hj => HN4.out j (by omega), HF4.out, Own.nil_ _ _ _ _, by simp, by simp, fun b hb => (by cases hb), fun b hb => by simp only [List.mem_cons, List.not_mem_nil, or_false] at hb; omega, HP4.out⟩,
   by simp [Cols.small, nilCols], Lib.hid (by unfold madeC; rw [HW.out]; rfl), by omega⟩
 case round =>
  obtain ⟨M, k, A6, c6, C, r, hkg, rfl, rfl, hst, hsm, HR, hzx⟩ := hrel
  have HST := Lib.hid hst
  have HPO := Lib.hid hst.pool
  have HSM := Lib.hid hsm
  clear hst hsm HS4 HN4 HF4 HP4
  by_cases hlt : k < 28
  ·
   have hD : Hid (poolL.drop k = poolL[k]'hlt :: poolL.drop (k + 1)) := drop_at poolL k hlt
   have hmem : Hid (poolL[k]'hlt ∈ poolL) := List.getElem_mem _
   obtain ⟨b', o', hbo, hpc⟩ := HPO.out.at_ (i := k) hlt
   injection hbo with hbo
   injection hbo with e1 e2
   subst e1 e2
   have hpc' := hide_sub hpc
   rw [Nat.zero_add] at hpc'
   generalize (poolL[k]'hlt) = cc at *
   clear hpc
   have hk0 : (0 : Int) ≤ (k : Int) := Int.natCast_nonneg _
   have hk1 : (k : Int) < 28 := by omega
   obtain ⟨wo, rfl⟩ : ∃ wo : World, wo = wr := ⟨_, rfl⟩
   go_upto_if 27 with (go_at_call 47; refine (usual_spec cc hmem.out _).mono ?_; rintro e w5 ⟨rfl, hb5⟩)
   go_cut [10] from 22 to 110 (fun s10 wx => ∃ ub, s10 = .pointer (some ⟨ub, 0, none⟩) ∧ wo.heap.size ≤ ub ∧ Kp [g] wo wx ∧ TSt M w0 wx g tb (tb + 1) pb A6 k c6 C (chUs wild cc r).2 ∧
    (wx.cell? ⟨ub, 0, none⟩ = some (.int .i64 (chUs wild cc r).1.cat) ∧ wx.cell? ⟨ub, 1, none⟩ = some (.int .i64 (chUs wild cc r).1.cls) ∧ wx.cell? ⟨ub, 2, none⟩ = some (.int .i64 (chUs wild cc r).1.joi) ∧
     wx.cell? ⟨ub, 3, none⟩ = some (.int .i64 (chUs wild cc r).1.bid) ∧ wx.cell? ⟨ub, 4, none⟩ = some (.int .i64 (chUs wild cc r).1.scr) ∧ wx.cell? ⟨ub, 5, none⟩ = some (.int .i64 (chUs wild cc r).1.sta)))
   case first =>
    obtain ⟨v0, hv0⟩ : ∃ v0, v0 = w5.alloc (.cells #[.int .i64 (usV cc).cat, .int .i64 (usV cc).cls, .int .i64 (usV cc).joi, .int .i64 (usV cc).bid, .int .i64 (usV cc).scr, .int .i64 (usV cc).sta] 65) := ⟨_, rfl⟩
    rw [← hv0]
    have hz5 : wo.heap.size ≤ w5.heap.size := hb5.b.size
    have hx0 : Ext wo v0 := by rw [hv0]; exact hb5.alloc_ _
    have hg0 : g < tb := HGT.out
    have hw0t : w0.heap.size ≤ tb := HW0T.out
    have hC0 : Hid (ChSt w0 wo v0 g w5.heap.size r [(usV cc).cat, (usV cc).cls, (usV cc).joi, (usV cc).bid, (usV cc).scr, (usV cc).sta]) := Lib.hid (by
     refine ⟨HST.out.src.kp (M := []) (Kp.ofExt hx0) (by simp), HST.out.ext.trans' hx0, Kp.ofExt hx0, rfl, fun j x hx => ?_⟩
     rw [hv0, World.cell?_alloc_new]
     refine ⟨?_, by simp⟩
     match j, hx with
     | 0, hx | 1, hx | 2, hx | 3, hx | 4, hx | 5, hx => simp at hx; subst hx; rfl
     | j + 6, hx => simp at hx)
    clear hv0
    generalize w5.heap.size = ub at *
    cases wild
    ·go_wp2_with fail
     go_meet
     case rel =>
      have hC := hC0.out
      exact ⟨ub, rfl, hz5, hC.kp, HST.out.next hC.kp hC.src hC.ext hg0 (by omega), (hC.u.2 0 _ rfl).1, (hC.u.2 1 _ rfl).1, (hC.u.2 2 _ rfl).1, (hC.u.2 3 _ rfl).1, (hC.u.2 4 _ rfl).1, (hC.u.2 5 _ rfl).1⟩
    ·skip
     have hu0 := (hC0.out.u.2 0 _ rfl).1
     go_wp2_with fail
     refine (choose_spec w0 _ g r [(usV cc).cat, 2, 1] (some ⟨v0.heap.size, 0, none⟩) 3 3 (hC0.out.src.kp (M := []) (Kp.ofExt ((Ext.refl v0).alloc_ _)) (by simp)) (hC0.out.ext.alloc_ _) ((ints_new v0 [(usV cc).cat, 2, 1] 3 (by simp [maxLen])).hide_ (by have h' : ub < v0.heap.size := World.block_lt_of_cell? _ _ hu0; simp; omega)) (by simp) (by simp)).mono ?_
     rintro e x0 ⟨rfl, hs10, hk10, hb10⟩
     have hkv0 : Kp [g] v0 x0 := (Kp.ofExt ((Ext.refl v0).alloc_ _)).trans hk10
     have hux0 := (hC0.out.u.kp hkv0 (by simp; omega)).2 0 _ rfl
     have hC1 : Hid (ChSt w0 wo (x0.setCell ⟨ub, 0, none⟩ (.int .i64 (chV r [(usV cc).cat, 2, 1]))) g ub (chR r) [(chV r [(usV cc).cat, 2, 1]), (usV cc).cls, (usV cc).joi, (usV cc).bid, (usV cc).scr, (usV cc).sta]) := Lib.hid (hC0.out.chosen hs10 hkv0 hb10 0 _ (by omega) (by omega) hz5 (by omega))
     obtain ⟨hx0a, hx0b⟩ := hux0
     obtain ⟨v1, hv1⟩ : ∃ v, v = x0.setCell ⟨ub, 0, none⟩ (.int .i64 (chV r [(usV cc).cat, 2, 1])) := ⟨_, rfl⟩
     go_upto_region 12 with fail
     rw [← hv1] at hC1 ⊢
     clear hv1 hx0a hx0b hu0 hs10 hk10 hb10 hkv0
     have hu1 := (hC1.out.u.2 1 _ rfl).1
     go_wp2_with fail
     refine (choose_spec w0 _ g (chR r) [(usV cc).cls, 0, 1, 9, 202, 220, 230, 254] (some ⟨v1.heap.size, 0, none⟩) 8 8 (hC1.out.src.kp (M := []) (Kp.ofExt ((Ext.refl v1).alloc_ _)) (by simp)) (hC1.out.ext.alloc_ _) ((ints_new v1 [(usV cc).cls, 0, 1, 9, 202, 220, 230, 254] 3 (by simp [maxLen])).hide_ (by have h' : ub < v1.heap.size := World.block_lt_of_cell? _ _ hu1; simp; omega)) (by simp) (by simp)).mono ?_
     rintro e x1 ⟨rfl, hs11, hk11, hb11⟩
     have hkv1 : Kp [g] v1 x1 := (Kp.ofExt ((Ext.refl v1).alloc_ _)).trans hk11
     have hux1 := (hC1.out.u.kp hkv1 (by simp; omega)).2 1 _ rfl
     have hC2 : Hid (ChSt w0 wo (x1.setCell ⟨ub, 1, none⟩ (.int .i64 (chV (chR r) [(usV cc).cls, 0, 1, 9, 202, 220, 230, 254]))) g ub (chR (chR r)) [(chV r [(usV cc).cat, 2, 1]), (chV (chR r) [(usV cc).cls, 0, 1, 9, 202, 220, 230, 254]), (usV cc).joi, (usV cc).bid, (usV cc).scr, (usV cc).sta]) := Lib.hid (hC1.out.chosen hs11 hkv1 hb11 1 _ (by omega) (by omega) hz5 (by omega))
     obtain ⟨hx1a, hx1b⟩ := hux1
     obtain ⟨v2, hv2⟩ : ∃ v, v = x1.setCell ⟨ub, 1, none⟩ (.int .i64 (chV (chR r) [(usV cc).cls, 0, 1, 9, 202, 220, 230, 254])) := ⟨_, rfl⟩
     go_upto_region 13 with fail
     rw [← hv2] at hC2 ⊢
     clear hv2 hx1a hx1b hu1 hs11 hk11 hb11 hkv1
     have hu2 := (hC2.out.u.2 2 _ rfl).1
     go_wp2_with fail
     refine (choose_spec w0 _ g (chR (chR r)) [(usV cc).joi, 0, 1, 2, 3, 4, 5] (some ⟨v2.heap.size, 0, none⟩) 7 7 (hC2.out.src.kp (M := []) (Kp.ofExt ((Ext.refl v2).alloc_ _)) (by simp)) (hC2.out.ext.alloc_ _) ((ints_new v2 [(usV cc).joi, 0, 1, 2, 3, 4, 5] 3 (by simp [maxLen])).hide_ (by have h' : ub < v2.heap.size := World.block_lt_of_cell? _ _ hu2; simp; omega)) (by simp) (by simp)).mono ?_
     rintro e x2 ⟨rfl, hs12, hk12, hb12⟩
     have hkv2 : Kp [g] v2 x2 := (Kp.ofExt ((Ext.refl v2).alloc_ _)).trans hk12
     have hux2 := (hC2.out.u.kp hkv2 (by simp; omega)).2 2 _ rfl
     have hC3 : Hid (ChSt w0 wo (x2.setCell ⟨ub, 2, none⟩ (.int .i64 (chV (chR (chR r)) [(usV cc).joi, 0, 1, 2, 3, 4, 5]))) g ub (chR (chR (chR r))) [(chV r [(usV cc).cat, 2, 1]), (chV (chR r) [(usV cc).cls, 0, 1, 9, 202, 220, 230, 254]), (chV (chR (chR r)) [(usV cc).joi, 0, 1, 2, 3, 4, 5]), (usV cc).bid, (usV cc).scr, (usV cc).sta]) := Lib.hid (hC2.out.chosen hs12 hkv2 hb12 2 _ (by omega) (by omega) hz5 (by omega))
     obtain ⟨hx2a, hx2b⟩ := hux2
     obtain ⟨v3, hv3⟩ : ∃ v, v = x2.setCell ⟨ub, 2, none⟩ (.int .i64 (chV (chR (chR r)) [(usV cc).joi, 0, 1, 2, 3, 4, 5])) := ⟨_, rfl⟩
     go_upto_region 14 with fail
     rw [← hv3] at hC3 ⊢
     clear hv3 hx2a hx2b hu2 hs12 hk12 hb12 hkv2
     have hu3 := (hC3.out.u.2 3 _ rfl).1
     go_wp2_with fail
     refine (choose_spec w0 _ g (chR (chR (chR r))) [(usV cc).bid, 0, 1, 2, 3, 4, 8, 10, 11] (some ⟨v3.heap.size, 0, none⟩) 9 9 (hC3.out.src.kp (M := []) (Kp.ofExt ((Ext.refl v3).alloc_ _)) (by simp)) (hC3.out.ext.alloc_ _) ((ints_new v3 [(usV cc).bid, 0, 1, 2, 3, 4, 8, 10, 11] 3 (by simp [maxLen])).hide_ (by have h' : ub < v3.heap.size := World.block_lt_of_cell? _ _ hu3; simp; omega)) (by simp) (by simp)).mono ?_
     rintro e x3 ⟨rfl, hs13, hk13, hb13⟩
     have hkv3 : Kp [g] v3 x3 := (Kp.ofExt ((Ext.refl v3).alloc_ _)).trans hk13
     have hux3 := (hC3.out.u.kp hkv3 (by simp; omega)).2 3 _ rfl
     have hC4 : Hid (ChSt w0 wo (x3.setCell ⟨ub, 3, none⟩ (.int .i64 (chV (chR (chR (chR r))) [(usV cc).bid, 0, 1, 2, 3, 4, 8, 10, 11]))) g ub (chR (chR (chR (chR r)))) [(chV r [(usV cc).cat, 2, 1]), (chV (chR r) [(usV cc).cls, 0, 1, 9, 202, 220, 230, 254]), (chV (chR (chR r)) [(usV cc).joi, 0, 1, 2, 3, 4, 5]), (chV (chR (chR (chR r))) [(usV cc).bid, 0, 1, 2, 3, 4, 8, 10, 11]), (usV cc).scr, (usV cc).sta]) := Lib.hid (hC3.out.chosen hs13 hkv3 hb13 3 _ (by omega) (by omega) hz5 (by omega))
     obtain ⟨hx3a, hx3b⟩ := hux3
     obtain ⟨v4, hv4⟩ : ∃ v, v = x3.setCell ⟨ub, 3, none⟩ (.int .i64 (chV (chR (chR (chR r))) [(usV cc).bid, 0, 1, 2, 3, 4, 8, 10, 11])) := ⟨_, rfl⟩
     go_upto_region 15 with fail
     rw [← hv4] at hC4 ⊢
     clear hv4 hx3a hx3b hu3 hs13 hk13 hb13 hkv3
     have hu4 := (hC4.out.u.2 4 _ rfl).1
     go_wp2_with fail
     refine (choose_spec w0 _ g (chR (chR (chR (chR r)))) [(usV cc).scr, 0, 1, 2, 3, 6, 7, 9, 10] (some ⟨v4.heap.size, 0, none⟩) 9 9 (hC4.out.src.kp (M := []) (Kp.ofExt ((Ext.refl v4).alloc_ _)) (by simp)) (hC4.out.ext.alloc_ _) ((ints_new v4 [(usV cc).scr, 0, 1, 2, 3, 6, 7, 9, 10] 3 (by simp [maxLen])).hide_ (by have h' : ub < v4.heap.size := World.block_lt_of_cell? _ _ hu4; simp; omega)) (by simp) (by simp)).mono ?_
     rintro e x4 ⟨rfl, hs14, hk14, hb14⟩
     have hkv4 : Kp [g] v4 x4 := (Kp.ofExt ((Ext.refl v4).alloc_ _)).trans hk14
     have hux4 := (hC4.out.u.kp hkv4 (by simp; omega)).2 4 _ rfl
     have hC5 : Hid (ChSt w0 wo (x4.setCell ⟨ub, 4, none⟩ (.int .i64 (chV (chR (chR (chR (chR r)))) [(usV cc).scr, 0, 1, 2, 3, 6, 7, 9, 10]))) g ub (chR (chR (chR (chR (chR r))))) [(chV r [(usV cc).cat, 2, 1]), (chV (chR r) [(usV cc).cls, 0, 1, 9, 202, 220, 230, 254]), (chV (chR (chR r)) [(usV cc).joi, 0, 1, 2, 3, 4, 5]), (chV (chR (chR (chR r))) [(usV cc).bid, 0, 1, 2, 3, 4, 8, 10, 11]), (chV (chR (chR (chR (chR r)))) [(usV cc).scr, 0, 1, 2, 3, 6, 7, 9, 10]), (usV cc).sta]) := Lib.hid (hC4.out.chosen hs14 hkv4 hb14 4 _ (by omega) (by omega) hz5 (by omega))
     obtain ⟨hx4a, hx4b⟩ := hux4
     obtain ⟨v5, hv5⟩ : ∃ v, v = x4.setCell ⟨ub, 4, none⟩ (.int .i64 (chV (chR (chR (chR (chR r)))) [(usV cc).scr, 0, 1, 2, 3, 6, 7, 9, 10])) := ⟨_, rfl⟩
     go_upto_region 16 with fail
     rw [← hv5] at hC5 ⊢
     clear hv5 hx4a hx4b hu4 hs14 hk14 hb14 hkv4
     have hu5 := (hC5.out.u.2 5 _ rfl).1
     go_wp2_with fail
     refine (choose_spec w0 _ g (chR (chR (chR (chR (chR r))))) [(usV cc).sta, 0, 1, 2, 4] (some ⟨v5.heap.size, 0, none⟩) 5 5 (hC5.out.src.kp (M := []) (Kp.ofExt ((Ext.refl v5).alloc_ _)) (by simp)) (hC5.out.ext.alloc_ _) ((ints_new v5 [(usV cc).sta, 0, 1, 2, 4] 3 (by simp [maxLen])).hide_ (by have h' : ub < v5.heap.size := World.block_lt_of_cell? _ _ hu5; simp; omega)) (by simp) (by simp)).mono ?_
     rintro e x5 ⟨rfl, hs15, hk15, hb15⟩
     have hkv5 : Kp [g] v5 x5 := (Kp.ofExt ((Ext.refl v5).alloc_ _)).trans hk15
     have hux5 := (hC5.out.u.kp hkv5 (by simp; omega)).2 5 _ rfl
     have hC6 : Hid (ChSt w0 wo (x5.setCell ⟨ub, 5, none⟩ (.int .i64 (chV (chR (chR (chR (chR (chR r))))) [(usV cc).sta, 0, 1, 2, 4]))) g ub (chR (chR (chR (chR (chR (chR r)))))) [(chV r [(usV cc).cat, 2, 1]), (chV (chR r) [(usV cc).cls, 0, 1, 9, 202, 220, 230, 254]), (chV (chR (chR r)) [(usV cc).joi, 0, 1, 2, 3, 4, 5]), (chV (chR (chR (chR r))) [(usV cc).bid, 0, 1, 2, 3, 4, 8, 10, 11]), (chV (chR (chR (chR (chR r)))) [(usV cc).scr, 0, 1, 2, 3, 6, 7, 9, 10]), (chV (chR (chR (chR (chR (chR r))))) [(usV cc).sta, 0, 1, 2, 4])]) := Lib.hid (hC5.out.chosen hs15 hkv5 hb15 5 _ (by omega) (by omega) hz5 (by omega))
     obtain ⟨hx5a, hx5b⟩ := hux5
     obtain ⟨v6, hv6⟩ : ∃ v, v = x5.setCell ⟨ub, 5, none⟩ (.int .i64 (chV (chR (chR (chR (chR (chR r))))) [(usV cc).sta, 0, 1, 2, 4])) := ⟨_, rfl⟩
     go_wp2_with fail
     rw [← hv6] at hC6 ⊢
     clear hv6 hx5a hx5b hu5 hs15 hk15 hb15 hkv5
     go_meet
     case rel =>
      have hC := hC6.out
      exact ⟨ub, rfl, hz5, hC.kp, HST.out.next hC.kp hC.src hC.ext hg0 (by omega), (hC.u.2 0 _ rfl).1, (hC.u.2 1 _ rfl).1, (hC.u.2 2 _ rfl).1, (hC.u.2 3 _ rfl).1, (hC.u.2 4 _ rfl).1, (hC.u.2 5 _ rfl).1⟩
   case rest =>
    obtain ⟨ub, rfl, hubz, hkc, hstc, d0, d1, d2, d3, d4, d5⟩ := hcut
    have HSTEP : Hid (madeC l = runC wild (poolL.drop (k + 1)) (stepC wild cc C r).1 (stepC wild cc C r).2) := Lib.hid (by rw [HR.out, hD.out]; rfl)
    have HCU : Hid (∀ u r6, chUs wild cc r = (u, r6) → stepC wild cc C r = (⟨addL C.cat cc cc u.cat, addL C.cls cc cc u.cls, addL C.joi cc cc u.joi, addL C.bid cc cc u.bid, addL C.scr cc cc u.scr, if (chIgn wild cc r6).1 = true then C.ign ++ [⟨cc, cc, 1⟩] else C.ign, C.sta ++ [u.sta]⟩, (chIgn wild cc r6).2)) := Lib.hid (by intro u r6 h; unfold stepC; simp only [h])
    obtain ⟨u, r6, hur⟩ : ∃ u r6, chUs wild cc r = (u, r6) := ⟨_, _, rfl⟩
    have HST6 := Lib.hid (HCU.out u r6 hur)
    rw [hur] at hstc d0 d1 d2 d3 d4 d5
    simp only at hstc d0 d1 d2 d3 d4 d5
    have HSC := Lib.hid hstc
    clear HR hD HCU hur hstc HST
    have hg0 : g < tb := HGT.out
    have hw0t : w0.heap.size ≤ tb := HW0T.out
    have hzc := hkc.size
    have hubl : ub < wc.heap.size := World.block_lt_of_cell? wc _ d0
    have hxw : Ext wc (wc.alloc (.cells #[.int .i64 cc, .int .i64 cc, .int .i64 0] 54)) := (Ext.refl _).alloc_ _
    have HT0 := Lib.hid (HSC.out.ext_ hxw hg0 (by omega))
    obtain ⟨s1, s2, s3, s4, s5, s6⟩ := HSM.out
    have hux : UX (wc.alloc (.cells #[.int .i64 cc, .int .i64 cc, .int .i64 0] 54)) ub wc.heap.size u cc := ⟨keep_cell (ext_keep hxw) d0, keep_cell (ext_keep hxw) d1, keep_cell (ext_keep hxw) d2, keep_cell (ext_keep hxw) d3, keep_cell (ext_keep hxw) d4, keep_cell (ext_keep hxw) d5, World.cell?_alloc_new wc _ _ 0, World.cell?_alloc_new wc _ _ 1, World.cell?_alloc_new wc _ _ 2⟩
    have HUX0 := Lib.hid hux
    clear hux
    have hzx' : tb < wc.heap.size := by omega
    have htu : ub ∉ [tb] := by simp; omega
    have htx : wc.heap.size ∉ [tb] := by simp; omega
    have hzz0 : tb < (wc.alloc (.cells #[.int .i64 cc, .int .i64 cc, .int .i64 0] 54)).heap.size := by simp; omega
    go_wp2_with fail
    refine (add_col M w0 _ tb 0 C.cat cc cc 0 u.cat HT0.out.ht HT0.out.hM HT0.out.ext hw0t HT0.out.cat (by omega)).mono ?_
    rintro e y0 ⟨rfl, hp0⟩
    have HT1 := Lib.hid (HT0.out.add_cat hp0 hg0 (by omega))
    have HUX1 := Lib.hid (HUX0.out.kp hp0.kp htu htx)
    have hzz1 : tb < y0.heap.size := Nat.lt_of_lt_of_le hzz0 hp0.kp.size
    clear d0 d1 d2 d3 d4 d5 hp0
    obtain ⟨q0, q1, q2, q3, q4, q5, qx0, qx1, qx2⟩ := HUX1.out
    go_wp2_with fail
    refine (add_col M w0 _ tb 1 C.cls cc cc 0 u.cls HT1.out.ht HT1.out.hM HT1.out.ext hw0t HT1.out.cls (by omega)).mono ?_
    rintro e y1 ⟨rfl, hp1⟩
    have HT2 := Lib.hid (HT1.out.add_cls hp1 hg0 (by omega))
    have HUX2 := Lib.hid (HUX1.out.kp hp1.kp htu htx)
    have hzz2 : tb < y1.heap.size := Nat.lt_of_lt_of_le hzz1 hp1.kp.size
    clear q0 q1 q2 q3 q4 q5 qx0 qx1 qx2 hp1
    obtain ⟨q0, q1, q2, q3, q4, q5, qx0, qx1, qx2⟩ := HUX2.out
    go_wp2_with fail
    refine (add_col M w0 _ tb 2 C.joi cc cc 0 u.joi HT2.out.ht HT2.out.hM HT2.out.ext hw0t HT2.out.joi (by omega)).mono ?_
    rintro e y2 ⟨rfl, hp2⟩
    have HT3 := Lib.hid (HT2.out.add_joi hp2 hg0 (by omega))
    have HUX3 := Lib.hid (HUX2.out.kp hp2.kp htu htx)
    have hzz3 : tb < y2.heap.size := Nat.lt_of_lt_of_le hzz2 hp2.kp.size
    clear q0 q1 q2 q3 q4 q5 qx0 qx1 qx2 hp2
    obtain ⟨q0, q1, q2, q3, q4, q5, qx0, qx1, qx2⟩ := HUX3.out
    go_wp2_with fail
    refine (add_col M w0 _ tb 3 C.bid cc cc 0 u.bid HT3.out.ht HT3.out.hM HT3.out.ext hw0t HT3.out.bid (by omega)).mono ?_
    rintro e y3 ⟨rfl, hp3⟩
    have HT4 := Lib.hid (HT3.out.add_bid hp3 hg0 (by omega))
    have HUX4 := Lib.hid (HUX3.out.kp hp3.kp htu htx)
    have hzz4 : tb < y3.heap.size := Nat.lt_of_lt_of_le hzz3 hp3.kp.size
    clear q0 q1 q2 q3 q4 q5 qx0 qx1 qx2 hp3
    obtain ⟨q0, q1, q2, q3, q4, q5, qx0, qx1, qx2⟩ := HUX4.out
    go_wp2_with fail
    refine (add_col M w0 _ tb 4 C.scr cc cc 0 u.scr HT4.out.ht HT4.out.hM HT4.out.ext hw0t HT4.out.scr (by omega)).mono ?_
    rintro e y4 ⟨rfl, hp4⟩
    have HT5 := Lib.hid (HT4.out.add_scr hp4 hg0 (by omega))
    have HUX5 := Lib.hid (HUX4.out.kp hp4.kp htu htx)
    have hzz5 : tb < y4.heap.size := Nat.lt_of_lt_of_le hzz4 hp4.kp.size
    clear q0 q1 q2 q3 q4 q5 qx0 qx1 qx2 hp4
    obtain ⟨q0, q1, q2, q3, q4, q5, qx0, qx1, qx2⟩ := HUX5.out
    go_upto_region 23 with fail
    obtain ⟨ig, r7, hig⟩ : ∃ ig r7, chIgn wild cc r6 = (ig, r7) := ⟨_, _, rfl⟩
    have HIG := Lib.hid hig
    obtain ⟨xb, hxb⟩ : ∃ x, wc.heap.size = x := ⟨_, rfl⟩
    rw [hxb] at HUX5 ⊢
    have hxt : tb < xb := by omega
    obtain ⟨C5, hC5⟩ : ∃ C5 : Cols, ⟨addL C.cat cc cc u.cat, addL C.cls cc cc u.cls, addL C.joi cc cc u.joi, addL C.bid cc cc u.bid, addL C.scr cc cc u.scr, C.ign, C.sta⟩ = C5 := ⟨_, rfl⟩
    have HC5 := Lib.hid hC5
    have HT5' : Hid (TSt M w0 y4 g tb (tb + 1) pb A6 k c6 C5 r6) := Lib.hid (by rw [← hC5]; exact HT5.out)
    have HCL : Hid (C5.ign.length ≤ k) := Lib.hid (by rw [← hC5]; exact s6)
    clear hxb hC5 HT0 HT1 HT2 HT3 HT4 HT5 HUX0 HUX1 HUX2 HUX3 HUX4 HSC hzz0 hzz1 hzz2 hzz3 hzz4 htx
    clear hig
    have hgx : g ≠ xb := by omega
    have hgu : g ≠ ub := by omega
    go_cut [101] from 22 to 110 (fun s101 wx => s101 = .bool ig ∧ UX wx ub xb u cc ∧ TSt M w0 wx g tb (tb + 1) pb A6 k c6 C5 r7 ∧ tb + 1 ≤ wx.heap.size)
    case first =>
     have HIG2 := Lib.hid HIG.out
     by_cases h173 : cc = 173
     ·have e173 : (cc == 173) = true := by rw [beq_iff_eq]; exact h173
      obtain ⟨hi1, hi2⟩ : true = ig ∧ r6 = r7 := by
       have h' := HIG.out
       rw [chIgn, if_pos h173] at h'
       exact Prod.mk.inj h'
      have HH := Lib.hid (And.intro hi1 hi2)
      clear h173 hi1 hi2
      go_wp2_with fail
      go_meet
      case rel => obtain ⟨h1, h2⟩ := HH.out; subst h1 h2; exact ⟨rfl, HUX5.out, HT5'.out, by omega⟩
     ·have e173 : (cc == 173) = false := by rw [beq_eq_false_iff_ne]; exact h173
      cases wild
      ·obtain ⟨hi1, hi2⟩ : false = ig ∧ r6 = r7 := by
        have h' := HIG.out
        rw [chIgn, if_neg h173, if_neg (by simp)] at h'
        exact Prod.mk.inj h'
       have HH := Lib.hid (And.intro hi1 hi2)
       clear h173 hi1 hi2
       go_wp2_with fail
       go_meet
       case rel => obtain ⟨h1, h2⟩ := HH.out; subst h1 h2; exact ⟨rfl, HUX5.out, HT5'.out, by omega⟩
      ·obtain ⟨hi1, hi2⟩ : (nxV 12 r6 == 0) = ig ∧ r6.tail = r7 := by
        have h' := HIG.out
        rw [chIgn, if_neg h173, if_pos rfl] at h'
        exact Prod.mk.inj h'
       have HH := Lib.hid (And.intro hi1 hi2)
       clear h173 hi1 hi2
       go_wp2_with fail
       refine (next_spec w0 y4 g r6 12 (by decide) (by decide) HT5'.out.src HT5'.out.ext).mono ?_
       rintro e y5 ⟨rfl, hs5, hk5, hb5⟩
       have hz5' := hk5.size
       have HX := Lib.hid (HUX5.out.kp hk5 (by simp; omega) (by simp; omega))
       have HY := Lib.hid (HT5'.out.next hk5 hs5 hb5 hg0 (by omega))
       go_wp2_with fail
       go_meet
       case rel => obtain ⟨h1, h2⟩ := HH.out; subst h1 h2; exact ⟨rfl, HX.out, HY.out, by omega⟩
    case rest =>
     clear hkc hzc hubl hxw hzx' HUX5 HT5' hzz5 q0 q1 q2 q3 q4 q5 qx0 qx1 qx2
     obtain ⟨rfl, hux6, ht6, hz6⟩ := hcut
     obtain ⟨w6, rfl⟩ : ∃ w6 : World, w6 = wc := ⟨_, rfl⟩
     have HU6 := Lib.hid hux6
     have HT6 := Lib.hid ht6
     obtain ⟨C6, hC6⟩ : ∃ C6 : Cols, (if ig = true then { C5 with ign := C5.ign ++ [⟨cc, cc, 1⟩] } else C5) = C6 := ⟨_, rfl⟩
     have HC6 := Lib.hid hC6
     clear hC6 hux6 ht6
     go_upto_if 101 with fail
     go_cut [10] from 22 to 110 (fun s10 wx => s10 = .pointer (some ⟨ub, 0, none⟩) ∧ UX wx ub xb u cc ∧ TSt M w0 wx g tb (tb + 1) pb A6 k c6 C6 r7 ∧ tb + 1 ≤ wx.heap.size)
     case first =>
      cases ig
      ·go_wp2_with fail
       go_meet
       case rel => exact ⟨rfl, HU6.out, by rw [← HC6.out]; exact HT6.out, hz6⟩
      ·obtain ⟨q0, q1, q2, q3, q4, q5, qx0, qx1, qx2⟩ := HU6.out
       go_wp2_with fail
       refine (add_col M w0 _ tb 6 C5.ign cc cc 0 1 HT6.out.ht HT6.out.hM HT6.out.ext hw0t HT6.out.ign (by have := HCL.out; omega)).mono ?_
       rintro e y6 ⟨rfl, hp6⟩
       have hz7 := hp6.kp.size
       have HX := Lib.hid (HU6.out.kp hp6.kp htu (by simp; omega))
       have HY := Lib.hid (HT6.out.add_ign hp6 hg0 (by omega))
       clear q0 q1 q2 q3 q4 q5 qx0 qx1 qx2 hp6
       go_wp2_with fail
       go_meet
       case rel => exact ⟨rfl, HX.out, by rw [← HC6.out]; exact HY.out, by omega⟩
     case rest =>
      clear HU6 HT6
      obtain ⟨rfl, hux7, ht7, hz7⟩ := hcut
      obtain ⟨w7, rfl⟩ : ∃ w7 : World, w7 = wc := ⟨_, rfl⟩
      have hq := hux7.c5
      have HT7 := Lib.hid ht7
      have hx7 : Ext w7 (w7.alloc (.cells #[.int .i64 u.sta] 3)) := (Ext.refl _).alloc_ _
      have HT8 := Lib.hid (ht7.ext_ hx7 hg0 (by omega))
      obtain ⟨A9, c9, w9, hrun, hown9, hgr9, hat9⟩ := append_ints (HT8.out.own) (one_int w7 u.sta) (by omega) (by simp; omega)
      obtain ⟨M9, ht9, hm1, hm2, hk9⟩ := HT8.out.stat hown9 hgr9 hat9 hg0 (by omega) (by omega)
      have hz9 : w7.heap.size + 1 ≤ w9.heap.size := by have h' := hk9.size; simpa using h'
      have HT9 := Lib.hid ht9
      clear hux7 ht7 hx7 hown9 hgr9 hat9 ht9 hm1 hm2 hk9
      go_wp2_with (at_builtin; refine wpList_run_append rfl _ _ _ rfl _ _ rfl rfl _ _ hrun ?_)
      have HEQ : Hid (stepC wild cc C r = ({ C6 with sta := C6.sta ++ [u.sta] }, r7)) := Lib.hid (by rw [HST6.out, HIG.out, ← HC6.out, ← HC5.out]; cases ig <;> rfl)
      have hsm9 : Cols.small { C6 with sta := C6.sta ++ [u.sta] } (k + 1) := by
       have l1 := addL_len C.cat cc cc u.cat
       have l2 := addL_len C.cls cc cc u.cls
       have l3 := addL_len C.joi cc cc u.joi
       have l4 := addL_len C.bid cc cc u.bid
       have l5 := addL_len C.scr cc cc u.scr
       have l6 := HCL.out
       rw [← HC6.out, ← HC5.out]
       rw [← HC5.out] at l6
       simp only at l6
       cases ig <;> simp only [Cols.small, if_true, if_false, Bool.false_eq_true, List.length_append, List.length_singleton] <;> omega
      have HM9 := Lib.hid hsm9
      clear hsm9 hrun hq
      go_roundg (gk - 1)
      case measure => omega
      case rel =>
       exact ⟨M9, k + 1, A9, c9, _, r7, by omega, rfl, by go_num, HT9.out, HM9.out, Lib.hid (by rw [HSTEP.out, HEQ.out]), by omega⟩
  ·obtain rfl : gk = 0 := by omega
   obtain rfl : k = 28 := by omega
   have HMC : Hid (madeC l = (C, r)) := Lib.hid (by rw [HR.out, drop_all poolL 28 (by decide)]; rfl)
   have HTL : Hid (tb < wr.heap.size) := Lib.hid (HST.out.hM tb HST.out.ht)
   have HEB : Hid (∀ b ∈ (blkOf A6).toList, b < wr.heap.size) := Lib.hid (fun b hb => HST.out.hM b (HST.out.hA b (by simpa using hb)))
   go_wp2_with fail
   refine (decomps_spec w0 wr g tb (blkOf A6).toList r HEB.out HST.out.src HST.out.ext HGT.out HTL.out HW0T.out (HST.out.nils 9 (by omega)) (HST.out.nils 10 (by omega)) HST.out.frz).mono ?_
   rintro e w5 ⟨rfl, M5, A9, n9, c9, A10, n10, c10, hd⟩
   obtain ⟨D, r5, hqd⟩ : ∃ D r5, runD 5 0 ⟨[], []⟩ r = (D, r5) := ⟨_, _, rfl⟩
   have HQD : Hid (madeD l = (D, r5)) := Lib.hid (by rw [madeD, HMC.out]; exact hqd)
   rw [hqd] at hd
   have HD := Lib.hid hd
   have HTL5 : Hid (tb < w5.heap.size) := Lib.hid (Nat.lt_of_lt_of_le HTL.out hd.kp.size)
   clear hd hqd
   have HO6 : Hid (OwnI w5 (tb + 1) A6 28 c6 C.sta) := Lib.hid (Own.kp HST.out.own HD.out.kp (fun b hb => by have h1 := (Own.lt HST.out.own b hb).1; have := HGT.out; simp; omega))
   go_wp2_with fail
   refine (maps_spec w0 w5 g tb A6 c6 C.sta r5 HD.out.src HD.out.ext HGT.out HTL5.out HW0T.out ((HD.out.oth 5 (by omega) (by omega)).trans (HST.out.nils 5 (by omega))) ((HD.out.oth 8 (by omega) (by omega)).trans (HST.out.nils 8 (by omega))) HD.out.frz HO6.out).mono ?_
   rintro e w6 ⟨rfl, M6, A8, n8, c8, st6, hm⟩
   obtain ⟨MM, r6, hqm⟩ : ∃ MM r6, runM poolL C.sta ⟨[], []⟩ r5 = (MM, r6) := ⟨_, _, rfl⟩
   have HQM : Hid (madeM l = (MM, r6)) := Lib.hid (by rw [madeM, HMC.out, HQD.out]; exact hqm)
   rw [hqm] at hm
   have HM := Lib.hid hm
   have HTL6 : Hid (tb < w6.heap.size) := Lib.hid (Nat.lt_of_lt_of_le HTL5.out hm.kp.size)
   have hoth : ∀ k, k ≠ 5 → k ≠ 8 → k ≠ 9 → k ≠ 10 → w6.cell? ⟨tb, k, none⟩ = wr.cell? ⟨tb, k, none⟩ := fun k k5 k8 k9 k10 => (hm.oth k k5 k8).trans (HD.out.oth k k9 k10)
   have hM6 : ∀ b ∈ M, b < w6.heap.size := fun b hb => Nat.lt_of_lt_of_le (Nat.lt_of_lt_of_le (HST.out.hM b hb) HD.out.kp.size) hm.kp.size
   have hcell : ∀ j, j < 12 → ∃ A n c, w6.cell? ⟨tb, j, none⟩ = some (.slice A n c) := by
    intro j hj
    have hcol : ∀ j L, ColAt M wr tb j L → j ≠ 5 → j ≠ 8 → j ≠ 9 → j ≠ 10 → ∃ A n c, w6.cell? ⟨tb, j, none⟩ = some (.slice A n c) := fun j L ⟨A, n, c, h1, _⟩ k5 k8 k9 k10 => ⟨A, n, c, (hoth j k5 k8 k9 k10).trans h1⟩
    have hx : j = 0 ∨ j = 1 ∨ j = 2 ∨ j = 3 ∨ j = 4 ∨ j = 5 ∨ j = 6 ∨ j = 7 ∨ j = 8 ∨ j = 9 ∨ j = 10 ∨ j = 11 := by omega
    rcases hx with rfl | rfl | rfl | rfl | rfl | rfl | rfl | rfl | rfl | rfl | rfl | rfl
    ·exact hcol 0 _ HST.out.cat (by omega) (by omega) (by omega) (by omega)
    ·exact hcol 1 _ HST.out.cls (by omega) (by omega) (by omega) (by omega)
    ·exact hcol 2 _ HST.out.joi (by omega) (by omega) (by omega) (by omega)
    ·exact hcol 3 _ HST.out.bid (by omega) (by omega) (by omega) (by omega)
    ·exact hcol 4 _ HST.out.scr (by omega) (by omega) (by omega) (by omega)
    ·obtain ⟨A, n, c, h1, _⟩ := hm.col; exact ⟨A, n, c, h1⟩
    ·exact hcol 6 _ HST.out.ign (by omega) (by omega) (by omega) (by omega)
    ·exact ⟨_, _, _, (hoth 7 (by omega) (by omega) (by omega) (by omega)).trans (HST.out.nils 7 (by omega))⟩
    ·exact ⟨_, _, _, hm.v8⟩
    ·exact ⟨_, _, _, (hm.oth 9 (by omega) (by omega)).trans HD.out.v9⟩
    ·exact ⟨_, _, _, (hm.oth 10 (by omega) (by omega)).trans HD.out.v10⟩
    ·exact ⟨_, _, _, (hoth 11 (by omega) (by omega) (by omega) (by omega)).trans (HST.out.nils 11 (by omega))⟩
   have hkM : Kp M wr w6 := (HD.out.kp.mono (M' := M) fun b hb => by
     simp at hb; rcases hb with rfl | rfl
     ·exact .inl HST.out.hg
     ·exact .inl HST.out.ht).trans (hm.kp.mono (M' := M) fun b hb => by
     rw [List.mem_cons, List.mem_cons] at hb
     rcases hb with rfl | rfl | hb
     ·exact .inl HST.out.hg
     ·exact .inl HST.out.ht
     ·exact .inl (HST.out.hA b (by simpa using hb)))
   have hign : ColAt M w6 tb 6 C.ign := by
    obtain ⟨A, n, c, h1, h2, h3, h4⟩ := HST.out.ign
    exact ⟨A, n, c, (hoth 6 (by omega) (by omega) (by omega) (by omega)).trans h1, h2.keep (hide_keep' hkM), hm.frz 6, h4.kp hkM (fun _ h => .inl h) (fun _ h => .inl h)⟩
   have HN11 : Hid (w6.cell? ⟨tb, 11, none⟩ = some (.slice none 0 0)) := Lib.hid ((hoth 11 (by omega) (by omega) (by omega) (by omega)).trans (HST.out.nils 11 (by omega)))
   have HCELL := Lib.hid hcell
   have HIGN := Lib.hid hign
   have HM6 := Lib.hid hM6
   clear hm hqm hoth hM6 hcell hkM hign HO6
   go_wp2_with fail
   refine (prototypes_spec w0 w6 g tb M C.ign r6 HM.out.src HM.out.ext HGT.out HTL6.out HW0T.out HCELL.out HN11.out HM.out.frz HIGN.out HST.out.hg HST.out.ht HM6.out).mono ?_
   rintro e w7 ⟨rfl, M7, q7, A11, n11, c11, hp⟩
   obtain ⟨PP, r7, hqp⟩ : ∃ PP r7, runP C.ign protosL [] r6 = (PP, r7) := ⟨_, _, rfl⟩
   have HQP : Hid (madeP l = (PP, r7)) := Lib.hid (by rw [madeP, HMC.out, HQM.out]; exact hqp)
   rw [hqp] at hp
   obtain ⟨t, htab, ht7, hfr7⟩ := tab_parts HGT.out HST.out HD.out HM.out hp
   have HFR7 := Lib.hid hfr7
   have HP := Lib.hid hp
   have HTAB := Lib.hid htab
   have HT7 := Lib.hid ht7
   clear hp hqp htab ht7 hfr7
   go_wp2_with fail
   refine (next_spec w0 w7 g r7 2 (by decide) (by decide) HP.out.src HP.out.ext).mono ?_
   rintro e w8 ⟨rfl, hs8, hk8, hb8⟩
   have HB8 := Lib.hid hb8
   have hg8 : g < tb := HGT.out
   have HTL7 : Hid (tb < w7.heap.size) := Lib.hid (Nat.lt_of_lt_of_le HTL6.out HP.out.kp.size)
   have HTAB8 := Lib.hid (HTAB.out.keep (hk8.mono (M' := [g, tb]) (by intro b hb; simp at hb; subst hb; exact .inl (by simp))) (fun j => hk8.cell ⟨tb, j, none⟩ HTL7.out (by simp; omega)))
   have HFR8 : Hid (∀ k, w8.frozen? ⟨tb, k, none⟩ = false) := Lib.hid (fun k => (hk8.frozen ⟨tb, k, none⟩ HTL7.out (by simp; omega)).trans (HP.out.frz k))
   have HFRC : Hid (Fr M w8 tb t.s1.a) := Lib.hid (HFR7.out.kp hk8 (by intro b hb; simp at hb; subst hb; exact .inl HST.out.hg) (fun _ h => .inl h))
   have hz8 : tb < w8.heap.size := Nat.lt_of_lt_of_le HTL7.out hk8.size
   clear hs8 hk8 hb8
   obtain ⟨be, hbe⟩ : ∃ b, (nxV 2 r7 == 0) = b := ⟨_, rfl⟩
   have HBE := Lib.hid hbe
   cases be
   ·have HMADE : Hid (madeT l = mkT C D MM PP []) := Lib.hid (by
     have h0 : ¬ nxV 2 r7 = 0 := by have h1 := HBE.out; rw [beq_eq_false_iff_ne] at h1; exact h1
     rw [madeT, madeE, HMC.out, HQD.out, HQM.out, HQP.out, if_neg h0])
    obtain ⟨hblk, hts, hx9⟩ := tab_fin (show w0 = w.alloc (.cells nil12 26) from HW0.out) HB8.out HTAB8.out HGL.out
    have HBLK := Lib.hid hblk
    have HTS := Lib.hid hts
    have HX9 := Lib.hid hx9
    have HRG := Lib.hid HTAB8.out.cells.range
    clear hblk hts hx9
    go_upto_region 32 with fail
    refine wp_region_lit ?_
    refine wpList_load_mid rfl _ _ rfl tb 0 rfl _ _ HRG.out Tryz.underlying26 rfl (by kernel_rfl) ?_
    refine wpList_store_row rfl _ _ _ rfl w.heap.size _ rfl rfl 26 nil12 HBLK.out (by kernel_rfl) rfl (tv_all t) ?_
    go_wp2_with fail
    refine bodyPost_ret (v := t.v) (results_cell_row (p := 2) (ty := 26) (by kernel_rfl) _ _ w.heap.size 26 _ (0, 0) _ (by first | rfl | simp [Act.put]) (setRow_heap _ _ _ _ _ _ HBLK.out) Tryz.underlying26 rfl (by kernel_rfl)) rfl ⟨t, rfl, ?_, HX9.out, fr_fin HFRC.out (by have h1 := HW0T.out; rw [HW0.out] at h1; simp at h1; omega) (kp_setRow _ _ _)⟩
    rw [HMADE.out]
    exact HTS.out
   ·have HMADE : Hid (madeT l = { mkT C D MM PP [] with ext := [⟨12539, [7, 8]⟩] }) := Lib.hid (by
     have h0 : nxV 2 r7 = 0 := by have h1 := HBE.out; rw [beq_iff_eq] at h1; exact h1
     rw [madeT, madeE, HMC.out, HQD.out, HQM.out, HQP.out, if_pos h0]; rfl)
    have HTAB9 := Lib.hid (HTAB8.out.ext7 (by omega) hz8 3 74)
    have hw9 : Ext w0 (((w8.setCell ⟨tb, 7, none⟩ (.slice (some ⟨w8.heap.size + 1, 0, none⟩) 1 1)).alloc (.cells #[.int .i64 7, .int .i64 8] 3)).alloc (.cells #[.int .i64 12539, .slice (some ⟨w8.heap.size, 0, none⟩) 2 2] 74)) := ((HB8.out.setCell_ HW0T.out _).alloc_ _).alloc_ _
    obtain ⟨hblk, hts, hx9⟩ := tab_fin (show w0 = w.alloc (.cells nil12 26) from HW0.out) hw9 HTAB9.out HGL.out
    have HBLK := Lib.hid hblk
    have HTS := Lib.hid hts
    have HX9 := Lib.hid hx9
    have HC9 := Lib.hid HTAB9.out.cells
    have hxa : Ext w8 ((w8.alloc (.cells #[.int .i64 7, .int .i64 8] 3)).alloc (.cells #[.int .i64 12539, .slice (some ⟨w8.heap.size, 0, none⟩) 2 2] 74)) := ((Ext.refl _).alloc_ _).alloc_ _
    have hs7 := keep_cell (ext_keep hxa) HTAB8.out.cells.c7
    have hf7 := (hxa.b.frozen (p := ⟨tb, 7, none⟩) hz8).trans (HFR8.out 7)
    clear hblk hts hx9 hw9 hxa
    go_upto_region 32 with fail
    obtain ⟨w9, hw9⟩ : ∃ w9, w9 = ((w8.setCell ⟨tb, 7, none⟩ (.slice (some ⟨w8.heap.size + 1, 0, none⟩) 1 1)).alloc (.cells #[.int .i64 7, .int .i64 8] 3)).alloc (.cells #[.int .i64 12539, .slice (some ⟨w8.heap.size, 0, none⟩) 2 2] 74) := ⟨_, rfl⟩
    have HFRE : Hid (Fr M w9 tb t.s1.a) := Lib.hid (by rw [hw9]; exact HFRC.out.kp ((Kp.setCell [tb] w8 _ _ (by simp)).trans (Kp.ofExt (((Ext.refl _).alloc_ _).alloc_ _))) (by intro b hb; simp at hb; subst hb; exact .inl HST.out.ht) (fun _ h => .inl h))
    rw [← hw9] at HBLK HTS HX9 HC9 ⊢
    clear hw9 hs7 hf7
    have HFRD : Hid (Fr M w9 tb ({ t with s7 := ⟨some ⟨w8.heap.size + 1, 0, none⟩, 1, 1⟩ } : TV).s1.a) := Lib.hid HFRE.out
    generalize ht9 : ({ t with s7 := ⟨some ⟨w8.heap.size + 1, 0, none⟩, 1, 1⟩ } : TV) = t9 at *
    have HRG := Lib.hid HC9.out.range
    clear ht9
    refine wp_region_lit ?_
    refine wpList_load_mid rfl _ _ rfl tb 0 rfl _ _ HRG.out Tryz.underlying26 rfl (by kernel_rfl) ?_
    refine wpList_store_row rfl _ _ _ rfl w.heap.size _ rfl rfl 26 nil12 HBLK.out (by kernel_rfl) rfl (tv_all t9) ?_
    go_wp2_with fail
    refine bodyPost_ret (v := t9.v) (results_cell_row (p := 2) (ty := 26) (by kernel_rfl) _ _ w.heap.size 26 _ (0, 0) _ (by first | rfl | simp [Act.put]) (setRow_heap _ _ _ _ _ _ HBLK.out) Tryz.underlying26 rfl (by kernel_rfl)) rfl ⟨t9, rfl, ?_, HX9.out, fr_fin HFRD.out (by have h1 := HW0T.out; rw [HW0.out] at h1; simp at h1; omega) (kp_setRow _ _ _)⟩
    rw [HMADE.out]
    exact HTS.out
theorem tables_spec (l : List Int) (A : Option Addr) (n c : Nat) (w : World) (h : IntS w ⟨A, n, c⟩ l) (hglob : Glob w) :
  Calls Tryz.prog 13 #[.slice A n c] w (TabPost w l) :=
 (tables_own l A n c w h hglob).mono fun _ _ ⟨t, h1, h2, h3, _⟩ => ⟨t, h1, h2, h3⟩
end Go.Proofs.YtbdabjhankgcmaaGreatDoor
