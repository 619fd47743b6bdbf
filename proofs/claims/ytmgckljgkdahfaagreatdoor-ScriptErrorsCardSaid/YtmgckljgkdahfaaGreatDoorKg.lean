/- keep.Tables: the state of its loop; what its parts leave, put together. -/
import Derived.Test.YtmgckljgkdahfaaGreatDoorKd2
import Derived.Test.YtmgckljgkdahfaaGreatDoorKe2
import Derived.Test.YtmgckljgkdahfaaGreatDoorKf2
import Derived.Laws.Tables
import Derived.Deep.MidRow
namespace Go.Proofs.YtmgckljgkdahfaaGreatDoor
open Go.RowKit

/-- The state of the loop: the source, the columns, the row of statuses; M: the blocks that are written. -/
structure TSt (M : List Nat) (w0 w : World) (g tb bs pb : Nat) (A : Option Addr) (n c : Nat) (C : Cols) (r : List Int) : Prop where
  src : Src w0 w g r
  ext : Ext w0 w
  cat : ColAt M w tb 0 C.cat
  cls : ColAt M w tb 1 C.cls
  joi : ColAt M w tb 2 C.joi
  bid : ColAt M w tb 3 C.bid
  scr : ColAt M w tb 4 C.scr
  ign : ColAt M w tb 6 C.ign
  nils : ∀ j, j = 5 ∨ 7 ≤ j ∧ j < 12 → w.cell? ⟨tb, j, none⟩ = some (.slice none 0 0)
  frz : ∀ k, w.frozen? ⟨tb, k, none⟩ = false
  own : OwnI w bs A n c C.sta
  hg : g ∈ M
  ht : tb ∈ M
  hA : ∀ b, blkOf A = some b → b ∈ M
  hM : ∀ b ∈ M, b < w.heap.size
  pool : IntS (hide M w) ⟨some ⟨pb, 0, none⟩, 28, 28⟩ poolL

theorem TSt.next {M : List Nat} {w0 w w' : World} {g tb bs pb n c : Nat} {A : Option Addr} {C : Cols} {r r' : List Int} (h : TSt M w0 w g tb bs pb A n c C r) (hk : Kp [g] w w') (hs : Src w0 w' g r') (hb : Ext w0 w') (h1 : g < tb) (h2 : tb < bs) : TSt M w0 w' g tb bs pb A n c C r' := by
  have hN : ∀ b ∈ [g], b ∈ M ∨ w.heap.size ≤ b := by intro b hb; simp at hb; subst hb; exact .inl h.hg
  have ht : tb ∉ [g] := by simp; omega
  exact ⟨hs, hb, h.cat.kp hk hN ht, h.cls.kp hk hN ht, h.joi.kp hk hN ht, h.bid.kp hk hN ht, h.scr.kp hk hN ht, h.ign.kp hk hN ht, fun j hj => (hk.cell ⟨tb, j, none⟩ (h.hM tb h.ht) ht).trans (h.nils j hj), fun k => (hk.frozen ⟨tb, k, none⟩ (h.hM tb h.ht) ht).trans (h.frz k),
    Own.kp h.own hk (fun b hb => by have := (h.own.lt b hb).1; simp; omega), h.hg, h.ht, h.hA, fun b hb => Nat.lt_of_lt_of_le (h.hM b hb) hk.size, h.pool.keep (hide_keep' (hk.mono hN))⟩
theorem TSt.ext_ {M : List Nat} {w0 w w' : World} {g tb bs pb n c : Nat} {A : Option Addr} {C : Cols} {r : List Int} (h : TSt M w0 w g tb bs pb A n c C r) (hb : Ext w w') (h1 : g < tb) (h2 : tb < bs) : TSt M w0 w' g tb bs pb A n c C r :=
  h.next (Kp.ofExt hb) (h.src.kp (M := []) (Kp.ofExt hb) (by simp)) (h.ext.trans' hb) h1 h2
theorem TSt.add_cat {M : List Nat} {w0 w w' : World} {g tb bs pb n c : Nat} {A : Option Addr} {C : Cols} {r : List Int} {L' : List Sp} (h : TSt M w0 w g tb bs pb A n c C r) (hp : AddPost M w0 w w' tb 0 L') (h1 : g < tb) (h2 : tb < bs) : TSt M w0 w' g tb bs pb A n c { C with cat := L' } r :=
  ⟨h.src.kp hp.kp (by simp; omega), hp.ext, h.cat.self hp, h.cls.add hp (by omega) h.ht, h.joi.add hp (by omega) h.ht, h.bid.add hp (by omega) h.ht, h.scr.add hp (by omega) h.ht, h.ign.add hp (by omega) h.ht, fun j hj => (hp.other j (by omega)).trans (h.nils j hj), fun k => (hp.frozen k).trans (h.frz k), Own.kp h.own hp.kp (fun b hb => by have := (h.own.lt b hb).1; simp; omega), h.hg, h.ht, h.hA, fun b hb => Nat.lt_of_lt_of_le (h.hM b hb) hp.kp.size, h.pool.keep (hide_keep' (hp.kp.mono (by intro b hb; simp at hb; subst hb; exact .inl h.ht)))⟩
theorem TSt.add_cls {M : List Nat} {w0 w w' : World} {g tb bs pb n c : Nat} {A : Option Addr} {C : Cols} {r : List Int} {L' : List Sp} (h : TSt M w0 w g tb bs pb A n c C r) (hp : AddPost M w0 w w' tb 1 L') (h1 : g < tb) (h2 : tb < bs) : TSt M w0 w' g tb bs pb A n c { C with cls := L' } r :=
  ⟨h.src.kp hp.kp (by simp; omega), hp.ext, h.cat.add hp (by omega) h.ht, h.cls.self hp, h.joi.add hp (by omega) h.ht, h.bid.add hp (by omega) h.ht, h.scr.add hp (by omega) h.ht, h.ign.add hp (by omega) h.ht, fun j hj => (hp.other j (by omega)).trans (h.nils j hj), fun k => (hp.frozen k).trans (h.frz k), Own.kp h.own hp.kp (fun b hb => by have := (h.own.lt b hb).1; simp; omega), h.hg, h.ht, h.hA, fun b hb => Nat.lt_of_lt_of_le (h.hM b hb) hp.kp.size, h.pool.keep (hide_keep' (hp.kp.mono (by intro b hb; simp at hb; subst hb; exact .inl h.ht)))⟩
theorem TSt.add_joi {M : List Nat} {w0 w w' : World} {g tb bs pb n c : Nat} {A : Option Addr} {C : Cols} {r : List Int} {L' : List Sp} (h : TSt M w0 w g tb bs pb A n c C r) (hp : AddPost M w0 w w' tb 2 L') (h1 : g < tb) (h2 : tb < bs) : TSt M w0 w' g tb bs pb A n c { C with joi := L' } r :=
  ⟨h.src.kp hp.kp (by simp; omega), hp.ext, h.cat.add hp (by omega) h.ht, h.cls.add hp (by omega) h.ht, h.joi.self hp, h.bid.add hp (by omega) h.ht, h.scr.add hp (by omega) h.ht, h.ign.add hp (by omega) h.ht, fun j hj => (hp.other j (by omega)).trans (h.nils j hj), fun k => (hp.frozen k).trans (h.frz k), Own.kp h.own hp.kp (fun b hb => by have := (h.own.lt b hb).1; simp; omega), h.hg, h.ht, h.hA, fun b hb => Nat.lt_of_lt_of_le (h.hM b hb) hp.kp.size, h.pool.keep (hide_keep' (hp.kp.mono (by intro b hb; simp at hb; subst hb; exact .inl h.ht)))⟩
theorem TSt.add_bid {M : List Nat} {w0 w w' : World} {g tb bs pb n c : Nat} {A : Option Addr} {C : Cols} {r : List Int} {L' : List Sp} (h : TSt M w0 w g tb bs pb A n c C r) (hp : AddPost M w0 w w' tb 3 L') (h1 : g < tb) (h2 : tb < bs) : TSt M w0 w' g tb bs pb A n c { C with bid := L' } r :=
  ⟨h.src.kp hp.kp (by simp; omega), hp.ext, h.cat.add hp (by omega) h.ht, h.cls.add hp (by omega) h.ht, h.joi.add hp (by omega) h.ht, h.bid.self hp, h.scr.add hp (by omega) h.ht, h.ign.add hp (by omega) h.ht, fun j hj => (hp.other j (by omega)).trans (h.nils j hj), fun k => (hp.frozen k).trans (h.frz k), Own.kp h.own hp.kp (fun b hb => by have := (h.own.lt b hb).1; simp; omega), h.hg, h.ht, h.hA, fun b hb => Nat.lt_of_lt_of_le (h.hM b hb) hp.kp.size, h.pool.keep (hide_keep' (hp.kp.mono (by intro b hb; simp at hb; subst hb; exact .inl h.ht)))⟩
theorem TSt.add_scr {M : List Nat} {w0 w w' : World} {g tb bs pb n c : Nat} {A : Option Addr} {C : Cols} {r : List Int} {L' : List Sp} (h : TSt M w0 w g tb bs pb A n c C r) (hp : AddPost M w0 w w' tb 4 L') (h1 : g < tb) (h2 : tb < bs) : TSt M w0 w' g tb bs pb A n c { C with scr := L' } r :=
  ⟨h.src.kp hp.kp (by simp; omega), hp.ext, h.cat.add hp (by omega) h.ht, h.cls.add hp (by omega) h.ht, h.joi.add hp (by omega) h.ht, h.bid.add hp (by omega) h.ht, h.scr.self hp, h.ign.add hp (by omega) h.ht, fun j hj => (hp.other j (by omega)).trans (h.nils j hj), fun k => (hp.frozen k).trans (h.frz k), Own.kp h.own hp.kp (fun b hb => by have := (h.own.lt b hb).1; simp; omega), h.hg, h.ht, h.hA, fun b hb => Nat.lt_of_lt_of_le (h.hM b hb) hp.kp.size, h.pool.keep (hide_keep' (hp.kp.mono (by intro b hb; simp at hb; subst hb; exact .inl h.ht)))⟩
theorem TSt.add_ign {M : List Nat} {w0 w w' : World} {g tb bs pb n c : Nat} {A : Option Addr} {C : Cols} {r : List Int} {L' : List Sp} (h : TSt M w0 w g tb bs pb A n c C r) (hp : AddPost M w0 w w' tb 6 L') (h1 : g < tb) (h2 : tb < bs) : TSt M w0 w' g tb bs pb A n c { C with ign := L' } r :=
  ⟨h.src.kp hp.kp (by simp; omega), hp.ext, h.cat.add hp (by omega) h.ht, h.cls.add hp (by omega) h.ht, h.joi.add hp (by omega) h.ht, h.bid.add hp (by omega) h.ht, h.scr.add hp (by omega) h.ht, h.ign.self hp, fun j hj => (hp.other j (by omega)).trans (h.nils j hj), fun k => (hp.frozen k).trans (h.frz k), Own.kp h.own hp.kp (fun b hb => by have := (h.own.lt b hb).1; simp; omega), h.hg, h.ht, h.hA, fun b hb => Nat.lt_of_lt_of_le (h.hM b hb) hp.kp.size, h.pool.keep (hide_keep' (hp.kp.mono (by intro b hb; simp at hb; subst hb; exact .inl h.ht)))⟩
theorem ColAt.more {M M' : List Nat} {w w' : World} {tb j : Nat} {L : List Sp} (h : ColAt M w tb j L) (hk : Kp M w w') (h1 : ∀ b ∈ M, b ∈ M') (h2 : ∀ b ∈ M', b ∈ M ∨ w.heap.size ≤ b) (hc : ∀ k, w'.cell? ⟨tb, k, none⟩ = w.cell? ⟨tb, k, none⟩) (hf : ∀ k, w'.frozen? ⟨tb, k, none⟩ = w.frozen? ⟨tb, k, none⟩) : ColAt M' w' tb j L := by
  obtain ⟨A, n, c, g1, g2, g3⟩ := h
  exact ⟨A, n, c, (hc j).trans g1, g2.keep (hide_keep hk h1 h2), (hf j).trans g3⟩
/-- A status is appended. -/
theorem TSt.stat {M : List Nat} {w0 w w' : World} {g tb bs pb n c n' c' : Nat} {A A' : Option Addr} {C : Cols} {r : List Int} {sta' : List Int} (h : TSt M w0 w g tb bs pb A n c C r) (hown : OwnI w' bs A' n' c' sta') (hgr : w.grownBy w' (blkOf A)) (hat : blkOf A' = blkOf A ∨ blkOf A' = some w.heap.size) (h1 : g < tb) (h2 : tb < bs) (h3 : w0.heap.size ≤ bs) :
    ∃ M', TSt M' w0 w' g tb bs pb A' n' c' { C with sta := sta' } r ∧ (∀ b ∈ M, b ∈ M') ∧ (∀ b ∈ M', b ∈ M ∨ w.heap.size ≤ b) ∧ Kp M w w' := by
  have hkM : Kp M w w' := Kp.ofGrown hgr h.hA
  have hkA : Kp (blkOf A).toList w w' := Kp.ofGrown hgr (by intro b hb; simp [hb])
  have hbl : ∀ b, blkOf A = some b → tb < b := fun b hb => by have := (h.own.lt b hb).1; omega
  have htA : tb ∉ (blkOf A).toList := by intro hm; have := hbl tb (by simpa using hm); omega
  have hgA : g ∉ (blkOf A).toList := by intro hm; have := hbl g (by simpa using hm); omega
  have htl := h.hM tb h.ht
  have hc : ∀ k, w'.cell? ⟨tb, k, none⟩ = w.cell? ⟨tb, k, none⟩ := fun k => hkA.cell ⟨tb, k, none⟩ htl htA
  have hf : ∀ k, w'.frozen? ⟨tb, k, none⟩ = w.frozen? ⟨tb, k, none⟩ := fun k => hkA.frozen ⟨tb, k, none⟩ htl htA
  have hx : Ext w0 w' := ext_of_grown h.ext hgr (fun k hk => by have := (h.own.lt k hk).1; omega)
  obtain ⟨M', m1, m2, m3⟩ : ∃ M' : List Nat, (∀ b ∈ M, b ∈ M') ∧ (∀ b ∈ M', b ∈ M ∨ w.heap.size ≤ b) ∧ (∀ b, blkOf A' = some b → b ∈ M') ∧ (∀ b ∈ M', b < w'.heap.size) := by
    rcases hat with hat | hat
    · exact ⟨M, fun _ h => h, fun _ h => .inl h, fun b hb => h.hA b (by rw [← hat]; exact hb), fun b hb => Nat.lt_of_lt_of_le (h.hM b hb) hkM.size⟩
    · refine ⟨w.heap.size :: M, fun b hb => by simp [hb], fun b hb => ?_, fun b hb => ?_, fun b hb => ?_⟩
      · simp at hb; rcases hb with rfl | hb
        · exact .inr (Nat.le_refl _)
        · exact .inl hb
      · rw [hat] at hb; injection hb with hb; simp [hb]
      · simp at hb; rcases hb with rfl | hb
        · exact (hown.lt _ hat).2
        · exact Nat.lt_of_lt_of_le (h.hM b hb) hkM.size
  exact ⟨M', ⟨h.src.kp hkA hgA, hx, h.cat.more hkM m1 m2 hc hf, h.cls.more hkM m1 m2 hc hf, h.joi.more hkM m1 m2 hc hf, h.bid.more hkM m1 m2 hc hf, h.scr.more hkM m1 m2 hc hf, h.ign.more hkM m1 m2 hc hf, fun j hj => (hc j).trans (h.nils j hj), fun k => (hf k).trans (h.frz k), hown, m1 g h.hg, m1 tb h.ht, m3.1, m3.2, h.pool.keep (hide_keep hkM m1 m2)⟩, m1, m2, hkM⟩

/-- The six cells of the block u. -/
def UAt (w : World) (ub : Nat) (v : List Int) : Prop := v.length = 6 ∧ ∀ j x, v[j]? = some x → w.cell? ⟨ub, j, none⟩ = some (.int .i64 x) ∧ w.frozen? ⟨ub, j, none⟩ = false
theorem UAt.kp {M : List Nat} {w w' : World} {ub : Nat} {v : List Int} (h : UAt w ub v) (hk : Kp M w w') (hm : ub ∉ M) : UAt w' ub v := by
  refine ⟨h.1, fun j x hx => ?_⟩
  obtain ⟨h1, h2⟩ := h.2 j x hx
  have hlt := World.block_lt_of_cell? w _ h1
  exact ⟨by rw [hk.cell _ hlt hm]; exact h1, by rw [hk.frozen ⟨ub, j, none⟩ hlt hm]; exact h2⟩
theorem UAt.set {w : World} {ub : Nat} {v : List Int} (h : UAt w ub v) (j : Nat) (x : Int) (hj : j < 6) : UAt (w.setCell ⟨ub, j, none⟩ (.int .i64 x)) ub (v.set j x) := by
  refine ⟨by simpa using h.1, fun i y hy => ?_⟩
  rw [World.frozen?_setCell]
  by_cases hij : j = i
  · subst hij
    have hjl : j < v.length := by rw [h.1]; exact hj
    have hy' : y = x := by simpa [hjl] using hy.symm
    subst hy'
    obtain ⟨h1, h2⟩ := h.2 j v[j] (List.getElem?_eq_getElem hjl)
    exact ⟨World.cell?_setCell_same _ _ _ h1, h2⟩
  · rw [List.getElem?_set_ne hij] at hy
    obtain ⟨h1, h2⟩ := h.2 i y hy
    exact ⟨by rw [World.cell?_setCell_other _ _ _ _ (by intro e; injection e with _ e; exact hij e)]; exact h1, h2⟩
/-- The state between two choices. -/
structure ChSt (w0 wo w : World) (g ub : Nat) (r v : List Int) : Prop where
  src : Src w0 w g r
  ext : Ext w0 w
  kp : Kp [g] wo w
  u : UAt w ub v
theorem ChSt.chosen {w0 wo w x : World} {g ub : Nat} {r r' v : List Int} (h : ChSt w0 wo w g ub r v) (hs : Src w0 x g r') (hk : Kp [g] w x) (hb : Ext w0 x) (j : Nat) (y : Int) (hj : j < 6) (h1 : g < ub) (h2 : wo.heap.size ≤ ub) (h3 : w0.heap.size ≤ ub) :
    ChSt w0 wo (x.setCell ⟨ub, j, none⟩ (.int .i64 y)) g ub r' (v.set j y) := by
  have hks : Kp [ub] x (x.setCell ⟨ub, j, none⟩ (.int .i64 y)) := Kp.setCell _ _ _ _ (by simp)
  refine ⟨hs.kp hks (by simp; omega), hb.setCell_ h3 _, ?_, (h.u.kp hk (by simp; omega)).set j y hj⟩
  have k1 : Kp [g, ub] wo x := (h.kp.trans hk).mono (by intro b hb; simp at hb; subst hb; exact .inl (by simp))
  have k2 : Kp [g, ub] x (x.setCell ⟨ub, j, none⟩ (.int .i64 y)) := hks.mono (by intro b hb; simp at hb; subst hb; exact .inl (by simp))
  exact (k1.trans k2).mono (by intro b hb; simp at hb; exact hb.elim (fun e => .inl (by simp [e])) (fun e => .inr (by omega)))

/-- The cells that the rest of a round reads: the six properties, the span. -/
structure UX (w : World) (ub xb : Nat) (u : Us) (cc : Int) : Prop where
  c0 : w.cell? ⟨ub, 0, none⟩ = some (.int .i64 u.cat)
  c1 : w.cell? ⟨ub, 1, none⟩ = some (.int .i64 u.cls)
  c2 : w.cell? ⟨ub, 2, none⟩ = some (.int .i64 u.joi)
  c3 : w.cell? ⟨ub, 3, none⟩ = some (.int .i64 u.bid)
  c4 : w.cell? ⟨ub, 4, none⟩ = some (.int .i64 u.scr)
  c5 : w.cell? ⟨ub, 5, none⟩ = some (.int .i64 u.sta)
  x0 : w.cell? ⟨xb, 0, none⟩ = some (.int .i64 cc)
  x1 : w.cell? ⟨xb, 1, none⟩ = some (.int .i64 cc)
  x2 : w.cell? ⟨xb, 2, none⟩ = some (.int .i64 0)
theorem UX.kp {w w' : World} {ub xb : Nat} {u : Us} {cc : Int} {M : List Nat} (h : UX w ub xb u cc) (hk : Kp M w w') (h1 : ub ∉ M) (h2 : xb ∉ M) : UX w' ub xb u cc := by
  have hu : ub < w.heap.size := World.block_lt_of_cell? w _ h.c0
  have hx : xb < w.heap.size := World.block_lt_of_cell? w _ h.x0
  exact ⟨(hk.cell ⟨ub, 0, none⟩ hu h1).trans h.c0, (hk.cell ⟨ub, 1, none⟩ hu h1).trans h.c1, (hk.cell ⟨ub, 2, none⟩ hu h1).trans h.c2, (hk.cell ⟨ub, 3, none⟩ hu h1).trans h.c3, (hk.cell ⟨ub, 4, none⟩ hu h1).trans h.c4, (hk.cell ⟨ub, 5, none⟩ hu h1).trans h.c5,
    (hk.cell ⟨xb, 0, none⟩ hx h2).trans h.x0, (hk.cell ⟨xb, 1, none⟩ hx h2).trans h.x1, (hk.cell ⟨xb, 2, none⟩ hx h2).trans h.x2⟩

def Cols.small (C : Cols) (k : Nat) : Prop := C.cat.length ≤ k ∧ C.cls.length ≤ k ∧ C.joi.length ≤ k ∧ C.bid.length ≤ k ∧ C.scr.length ≤ k ∧ C.ign.length ≤ k

/-! Tables in memory, whole. -/
structure TabAt (N : List Nat) (w : World) (tb : Nat) (t : TV) (T : Tbl) : Prop where
  cells : Tcells w tb t
  cat : SpanS (hide N w) t.s0 T.cat
  cls : SpanS (hide N w) t.s1 T.cls
  joi : SpanS (hide N w) t.s2 T.joi
  bid : SpanS (hide N w) t.s3 T.bid
  scr : SpanS (hide N w) t.s4 T.scr
  sta : SpanS (hide N w) t.s5 T.sta
  ign : SpanS (hide N w) t.s6 T.ign
  ext : MapS (hide N w) t.s7 T.ext
  mps : MapS (hide N w) t.s8 T.mps
  dec : MapS (hide N w) t.s9 T.dec
  exc : IntS (hide N w) t.s10 T.exc
  pro : MapS (hide N w) t.s11 T.pro
theorem TabAt.keep {N : List Nat} {w w' : World} {tb : Nat} {t : TV} {T : Tbl} (h : TabAt N w tb t T) (hk : Kp N w w') (hc : ∀ j, w'.cell? ⟨tb, j, none⟩ = w.cell? ⟨tb, j, none⟩) : TabAt N w' tb t T :=
  ⟨h.cells.same hc, h.cat.keep (hide_keep' hk), h.cls.keep (hide_keep' hk), h.joi.keep (hide_keep' hk), h.bid.keep (hide_keep' hk), h.scr.keep (hide_keep' hk), h.sta.keep (hide_keep' hk), h.ign.keep (hide_keep' hk), MapS.keep h.ext (hide_keep' hk), h.mps.keep (hide_keep' hk), h.dec.keep (hide_keep' hk), h.exc.keep (hide_keep' hk), h.pro.keep (hide_keep' hk)⟩
theorem ColAt.cell {M : List Nat} {w : World} {tb j : Nat} {L : List Sp} {s : SV} (h : ColAt M w tb j L) (hc : w.cell? ⟨tb, j, none⟩ = some (.slice s.a s.n s.c)) : SpanS (hide M w) s L := by
  obtain ⟨A, n, c, h1, h2, _⟩ := h
  rw [hc] at h1
  injection h1 with h1
  injection h1 with e1 e2 e3
  obtain ⟨sa, sn, sc⟩ := s
  simp only at e1 e2 e3
  subst e1 e2 e3
  exact h2
theorem SV.eq_of {s : SV} {A : Option Addr} {n c : Nat} {w : World} {p : Addr} (h1 : w.cell? p = some (.slice s.a s.n s.c)) (h2 : w.cell? p = some (.slice A n c)) : s = ⟨A, n, c⟩ := by
  rw [h1] at h2
  injection h2 with h2
  injection h2 with e1 e2 e3
  obtain ⟨sa, sn, sc⟩ := s
  simp only at e1 e2 e3
  subst e1 e2 e3
  rfl
/-- What the loop, decomps, maps and prototypes leave. -/
theorem tab_parts {w0 wr w5 w6 w7 : World} {g tb pb c6 n9 c9 n10 c10 n8 c8 n11 c11 q7 : Nat} {M M5 M6 M7 : List Nat} {A6 A9 A10 A8 A11 : Option Addr} {C : Cols} {D : Decs} {MM : Mps} {P : List Mp} {r r5 r6 r7 st6 : List Int} (hgt : g < tb)
    (hT : TSt M w0 wr g tb (tb + 1) pb A6 28 c6 C r) (hD : DSt wr w0 w5 g tb wr.heap.size (blkOf A6).toList M5 A9 n9 c9 A10 n10 c10 D r5) (hM : MSt w5 w0 w6 g tb w5.heap.size w5.heap.size M6 A8 n8 c8 A6 28 c6 st6 MM r6)
    (hP : PSt w6 w0 w7 g tb w6.heap.size q7 M7 A11 n11 c11 C.ign P r7) : ∃ t : TV, TabAt [g, tb] w7 tb t (mkT C D MM P []) ∧ t.s7 = nilSV := by
  have htl : tb < wr.heap.size := hT.hM tb hT.ht
  have h5s := hD.kp.size
  have h6s := hM.kp.size
  have hc67 : ∀ k, k ≠ 11 → w7.cell? ⟨tb, k, none⟩ = w6.cell? ⟨tb, k, none⟩ := hP.oth
  have hc56 : ∀ k, k ≠ 5 → k ≠ 8 → w6.cell? ⟨tb, k, none⟩ = w5.cell? ⟨tb, k, none⟩ := hM.oth
  have hcr5 : ∀ k, k ≠ 9 → k ≠ 10 → w5.cell? ⟨tb, k, none⟩ = wr.cell? ⟨tb, k, none⟩ := hD.oth
  have hcr7 : ∀ k, k ≠ 5 → k ≠ 8 → k ≠ 9 → k ≠ 10 → k ≠ 11 → w7.cell? ⟨tb, k, none⟩ = wr.cell? ⟨tb, k, none⟩ := fun k k5 k8 k9 k10 k11 => ((hc67 k k11).trans (hc56 k k5 k8)).trans (hcr5 k k9 k10)
  have v7 : w7.cell? ⟨tb, 7, none⟩ = some (.slice none 0 0) := (hcr7 7 (by omega) (by omega) (by omega) (by omega) (by omega)).trans (hT.nils 7 (by omega))
  have v8 : w7.cell? ⟨tb, 8, none⟩ = some (.slice A8 n8 c8) := (hc67 8 (by omega)).trans hM.v8
  have v9 : w7.cell? ⟨tb, 9, none⟩ = some (.slice A9 n9 c9) := ((hc67 9 (by omega)).trans (hc56 9 (by omega) (by omega))).trans hD.v9
  have v10 : w7.cell? ⟨tb, 10, none⟩ = some (.slice A10 n10 c10) := ((hc67 10 (by omega)).trans (hc56 10 (by omega) (by omega))).trans hD.v10
  have v11 := hP.v11
  have hE : ∀ b, b ∈ (blkOf A6).toList ↔ blkOf A6 = some b := by intro b; simp
  -- the columns
  have kM : Kp M wr w7 := ((hD.kp.mono (M' := M) fun b hb => by
      simp at hb; rcases hb with rfl | rfl
      · exact .inl hT.hg
      · exact .inl hT.ht).trans (hM.kp.mono (M' := M) fun b hb => by
      rw [List.mem_cons, List.mem_cons] at hb
      rcases hb with rfl | rfl | hb
      · exact .inl hT.hg
      · exact .inl hT.ht
      · exact .inl (hT.hA b ((hE b).1 hb)))).trans (hP.kp.mono (M' := M) fun b hb => by
      simp at hb; rcases hb with rfl | rfl
      · exact .inl hT.hg
      · exact .inl hT.ht)
  have hless : ∀ b ∈ [g, tb], b ∈ M := by intro b hb; simp at hb; rcases hb with rfl | rfl; exact hT.hg; exact hT.ht
  have col7 : ∀ j L, ColAt M wr tb j L → j ≠ 5 → j ≠ 8 → j ≠ 9 → j ≠ 10 → j ≠ 11 → ∃ A n c, w7.cell? ⟨tb, j, none⟩ = some (.slice A n c) ∧ SpanS (hide [g, tb] w7) ⟨A, n, c⟩ L := by
    intro j L ⟨A, n, c, e1, e2, _⟩ k5 k8 k9 k10 k11
    exact ⟨A, n, c, (hcr7 j k5 k8 k9 k10 k11).trans e1, (e2.keep (hide_keep' kM)).sub fun p v hp => hide_less hless hp⟩
  obtain ⟨a0, n0, c0, e0, s0⟩ := col7 0 _ hT.cat (by omega) (by omega) (by omega) (by omega) (by omega)
  obtain ⟨a1, n1, c1, e1, s1⟩ := col7 1 _ hT.cls (by omega) (by omega) (by omega) (by omega) (by omega)
  obtain ⟨a2, n2, c2, e2, s2⟩ := col7 2 _ hT.joi (by omega) (by omega) (by omega) (by omega) (by omega)
  obtain ⟨a3, n3, c3, e3, s3⟩ := col7 3 _ hT.bid (by omega) (by omega) (by omega) (by omega) (by omega)
  obtain ⟨a4, n4, c4, e4, s4⟩ := col7 4 _ hT.scr (by omega) (by omega) (by omega) (by omega) (by omega)
  obtain ⟨a6, n6, cc6, e6, s6⟩ := col7 6 _ hT.ign (by omega) (by omega) (by omega) (by omega) (by omega)
  -- the statuses, the mappings
  have hM2 : ∀ b ∈ [g, tb], b ∈ M6 := by intro b hb; simp at hb; rcases hb with rfl | rfl; exact hM.hg; exact hM.ht
  obtain ⟨a5, n5, c5, e5, s5, _⟩ := hM.col
  have e5' := (hc67 5 (by omega)).trans e5
  have s5' := ((s5.sub fun p v hp => hide_less hM2 hp).keep (hide_keep' hP.kp))
  have m8 := (hM.o8.maps (M' := [g, tb]) (fun b hb => by have := (hM.o8.lt b hb).1; simp; omega) hM2).keep (hide_keep' hP.kp)
  -- the decompositions
  have hM3 : ∀ b ∈ g :: tb :: (blkOf A6).toList, b ∈ M5 := by
    intro b hb
    rw [List.mem_cons, List.mem_cons] at hb
    rcases hb with rfl | rfl | hb
    · exact hD.hg
    · exact hD.ht
    · exact (hD.hE b hb).1
  have hgr : g < wr.heap.size := by omega
  have m9 := ((hD.o9.maps (M' := g :: tb :: (blkOf A6).toList) (fun b hb hm => by
      have h1 := (hD.o9.lt b hb).1
      rw [List.mem_cons, List.mem_cons] at hm
      rcases hm with rfl | rfl | hm
      · omega
      · omega
      · have := (hD.hE b hm).2; omega) hM3).keep (hide_keep' hM.kp))
  have m9' := (m9.sub fun p v hp => hide_less (M' := [g, tb]) (by intro b hb; simp at hb; rcases hb with rfl | rfl <;> simp) hp).keep (hide_keep' hP.kp)
  have o10 : OwnI w7 wr.heap.size A10 n10 c10 D.exc := Own.kp (Own.kp hD.o10 hM.kp (fun b hb hm => by
      have h1 := (Own.lt hD.o10 b hb).1
      rw [List.mem_cons, List.mem_cons] at hm
      rcases hm with rfl | rfl | hm
      · omega
      · omega
      · have := (hD.hE b hm).2; omega)) hP.kp (fun b hb => by have h1 := (Own.lt hD.o10 b hb).1; simp; omega)
  have i10 : IntS (hide [g, tb] w7) ⟨A10, n10, c10⟩ D.exc := by
    have h1 := OwnI.ints o10
    refine ⟨h1.1, fun i x hx => ?_⟩
    obtain ⟨b, o, ha, hc⟩ := h1.2 i x hx
    refine ⟨b, o, ha, ?_⟩
    simp only at ha
    subst ha
    have h2 := (Own.lt o10 b rfl).1
    rw [hide_cell, if_neg (by simp; omega)]
    exact hc
  have m11 := hP.o11.maps (M' := [g, tb]) (fun b hb => by have := (hP.o11.lt b hb).1; simp; omega) (by intro b hb; simp at hb; rcases hb with rfl | rfl; exact hP.hg; exact hP.ht)
  exact ⟨⟨⟨a0, n0, c0⟩, ⟨a1, n1, c1⟩, ⟨a2, n2, c2⟩, ⟨a3, n3, c3⟩, ⟨a4, n4, c4⟩, ⟨a5, n5, c5⟩, ⟨a6, n6, cc6⟩, nilSV, ⟨A8, n8, c8⟩, ⟨A9, n9, c9⟩, ⟨A10, n10, c10⟩, ⟨A11, n11, c11⟩⟩,
    ⟨⟨e0, e1, e2, e3, e4, e5', e6, v7, v8, v9, v10, v11⟩, s0, s1, s2, s3, s4, s5', s6, MapS.nil_ _, m8, m9', i10, m11⟩, rfl⟩

/-! The result is stored in a block whose cells are all slices. -/
theorem IntS.apart {w w' : World} {rb : Nat} {s : SV} {l : List Int} (h : IntS w s l) (hk : Kp [rb] w w') (hr : ∀ j x, w.cell? ⟨rb, j, none⟩ ≠ some (.int .i64 x)) : IntS w' s l := by
  refine ⟨h.1, fun i x hx => ?_⟩
  obtain ⟨b, o, ha, hc⟩ := h.2 i x hx
  have hb : b ≠ rb := fun e => hr _ _ (e ▸ hc)
  exact ⟨b, o, ha, (hk.cell ⟨b, o + i, none⟩ (World.block_lt_of_cell? _ _ hc) (by simpa using hb)).trans hc⟩
theorem SpanS.apart {w w' : World} {rb : Nat} {s : SV} {l : List Sp} (h : SpanS w s l) (hk : Kp [rb] w w') (hr : ∀ j x, w.cell? ⟨rb, j, none⟩ ≠ some (.int .i64 x)) : SpanS w' s l := by
  refine ⟨h.1, fun i x hx => ?_⟩
  obtain ⟨b, o, ha, h0, h1, h2⟩ := h.2 i x hx
  have hb : b ≠ rb := fun e => hr _ _ (e ▸ h0)
  have hl : b < w.heap.size := World.block_lt_of_cell? _ _ h0
  have hn : b ∉ [rb] := by simpa using hb
  exact ⟨b, o, ha, (hk.cell ⟨b, _, none⟩ hl hn).trans h0, (hk.cell ⟨b, _, none⟩ hl hn).trans h1, (hk.cell ⟨b, _, none⟩ hl hn).trans h2⟩
theorem MapS.apart {w w' : World} {rb : Nat} {s : SV} {l : List Mp} (h : MapS w s l) (hk : Kp [rb] w w') (hr : ∀ j x, w.cell? ⟨rb, j, none⟩ ≠ some (.int .i64 x)) : MapS w' s l := by
  refine ⟨h.1, fun i x hx => ?_⟩
  obtain ⟨b, o, za, zn, zc, ha, h0, h1, h2⟩ := h.2 i x hx
  have hb : b ≠ rb := fun e => hr _ _ (e ▸ h0)
  have hl : b < w.heap.size := World.block_lt_of_cell? _ _ h0
  have hn : b ∉ [rb] := by simpa using hb
  exact ⟨b, o, za, zn, zc, ha, (hk.cell ⟨b, _, none⟩ hl hn).trans h0, (hk.cell ⟨b, _, none⟩ hl hn).trans h1, h2.apart hk hr⟩
theorem SpanS.seen {N : List Nat} {w : World} {s : SV} {l : List Sp} (h : SpanS (hide N w) s l) : SpanS w s l := h.sub fun _ _ => hide_sub
theorem MapS.seen {N : List Nat} {w : World} {s : SV} {l : List Mp} (h : MapS (hide N w) s l) : MapS w s l := h.sub fun _ _ => hide_sub
theorem IntS.seen {N : List Nat} {w : World} {s : SV} {l : List Int} (h : IntS (hide N w) s l) : IntS w s l := h.sub fun _ _ => hide_sub
theorem TabAt.done {N : List Nat} {w w' : World} {tb rb : Nat} {t : TV} {T : Tbl} (h : TabAt N w tb t T) (hk : Kp [rb] w w') (hr : ∀ j x, w.cell? ⟨rb, j, none⟩ ≠ some (.int .i64 x)) (hg : Glob w') : TblS w' t T :=
  ⟨(SpanS.seen h.cat).apart hk hr, (SpanS.seen h.cls).apart hk hr, (SpanS.seen h.joi).apart hk hr, (SpanS.seen h.bid).apart hk hr, (SpanS.seen h.scr).apart hk hr, (SpanS.seen h.sta).apart hk hr, (SpanS.seen h.ign).apart hk hr, (MapS.seen h.ext).apart hk hr, (MapS.seen h.mps).apart hk hr, (MapS.seen h.dec).apart hk hr, (IntS.seen h.exc).apart hk hr, (MapS.seen h.pro).apart hk hr, hg⟩

def nil12 : Array Value := #[.slice none 0 0, .slice none 0 0, .slice none 0 0, .slice none 0 0, .slice none 0 0, .slice none 0 0, .slice none 0 0, .slice none 0 0, .slice none 0 0, .slice none 0 0, .slice none 0 0, .slice none 0 0]
theorem kp_setRow (w : World) (g : Nat) (cs : Array Value) : Kp [g] w (w.setRow g cs) := by
  refine ⟨rfl, rfl, rfl, by simp, fun k _ hm => ?_⟩
  have hne : g ≠ k := fun e => hm (by simp [e])
  simp [World.setRow, Array.getElem?_modify, hne]
theorem tab_fin {w w0 w9 : World} {tb : Nat} {N : List Nat} {t : TV} {T : Tbl} {ty : TypeId} (hw0 : w0 = w.alloc (.cells nil12 ty)) (hx : Ext w0 w9) (h : TabAt N w9 tb t T) (hg : Glob w) :
    w9.heap[w.heap.size]? = some (.cells nil12 ty (0, 0)) ∧ TblS (w9.setRow w.heap.size t.v.cells) t T ∧ Ext w (w9.setRow w.heap.size t.v.cells) := by
  have hz : w.heap.size < w0.heap.size := by rw [hw0]; simp
  have hb : w9.heap[w.heap.size]? = some (.cells nil12 ty (0, 0)) := by rw [hx.b.block _ hz, hw0]; exact heap_alloc_new w _
  have hwx : Ext w w9 := (show Ext w w0 by rw [hw0]; exact (Ext.refl _).alloc_ _).trans' hx
  have hk := kp_setRow w9 w.heap.size t.v.cells
  have hfin : Ext w (w9.setRow w.heap.size t.v.cells) := ⟨hwx.b.os, hwx.b.tape, hwx.b.output, Nat.le_trans hwx.b.size hk.size, fun k hk' => (hk.block k (Nat.lt_of_lt_of_le hk' hwx.b.size) (by simp; omega)).trans (hwx.b.block k hk')⟩
  refine ⟨hb, h.done hk (fun j x hc => ?_) (hg.ext hfin), hfin⟩
  rw [cell_of_row w9 _ j _ _ _ hb] at hc
  match j, hc with
  | 0, hc | 1, hc | 2, hc | 3, hc | 4, hc | 5, hc | 6, hc | 7, hc | 8, hc | 9, hc | 10, hc | 11, hc => injection hc with hc; cases hc
  | j + 12, hc => simp [nil12] at hc
theorem TabAt.ext7 {w : World} {g tb : Nat} {t : TV} {T : Tbl} (h : TabAt [g, tb] w tb t T) (hgl : g < w.heap.size) (htl : tb < w.heap.size) (t1 t2 : TypeId) :
    TabAt [g, tb] (((w.setCell ⟨tb, 7, none⟩ (.slice (some ⟨w.heap.size + 1, 0, none⟩) 1 1)).alloc (.cells #[.int .i64 7, .int .i64 8] t1)).alloc (.cells #[.int .i64 12539, .slice (some ⟨w.heap.size, 0, none⟩) 2 2] t2)) tb { t with s7 := ⟨some ⟨w.heap.size + 1, 0, none⟩, 1, 1⟩ } { T with ext := [⟨12539, [7, 8]⟩] } := by
  obtain ⟨w0, hw0⟩ : ∃ w0, w0 = w.setCell ⟨tb, 7, none⟩ (.slice (some ⟨w.heap.size + 1, 0, none⟩) 1 1) := ⟨_, rfl⟩
  obtain ⟨w1, hw1⟩ : ∃ w1, w1 = w0.alloc (.cells #[.int .i64 7, .int .i64 8] t1) := ⟨_, rfl⟩
  obtain ⟨w2, hw2⟩ : ∃ w2, w2 = w1.alloc (.cells #[.int .i64 12539, .slice (some ⟨w.heap.size, 0, none⟩) 2 2] t2) := ⟨_, rfl⟩
  rw [← hw0, ← hw1, ← hw2]
  have z0 : w0.heap.size = w.heap.size := by rw [hw0]; simp
  have x1 : Ext w0 w1 := by rw [hw1]; exact (Ext.refl _).alloc_ _
  have x2 : Ext w1 w2 := by rw [hw2]; exact (Ext.refl _).alloc_ _
  have z1 : w1.heap.size = w.heap.size + 1 := by rw [hw1]; simp [z0]
  have i1 : IntS w1 ⟨some ⟨w.heap.size, 0, none⟩, 2, 2⟩ [7, 8] := by rw [hw1]; exact ints_at z0 [7, 8] _ (by simp [maxLen])
  have hk : Kp [g, tb] w w2 := (show Kp [g, tb] w w0 by rw [hw0]; exact Kp.setCell _ _ _ _ (by simp)).trans (Kp.ofExt (x1.trans' x2))
  have hc2 : ∀ j, w2.cell? ⟨tb, j, none⟩ = w0.cell? ⟨tb, j, none⟩ := fun j => (x1.trans' x2).b.cell (p := ⟨tb, j, none⟩) (by show tb < w0.heap.size; omega)
  have hoth : ∀ j, j ≠ 7 → w2.cell? ⟨tb, j, none⟩ = w.cell? ⟨tb, j, none⟩ := fun j hj => by
    rw [hc2, hw0, World.cell?_setCell_other _ _ _ _ (by intro e; injection e with _ e; exact hj e.symm)]
  have h7 : w2.cell? ⟨tb, 7, none⟩ = some (.slice (some ⟨w.heap.size + 1, 0, none⟩) 1 1) := by rw [hc2, hw0]; exact World.cell?_setCell_same _ _ _ h.cells.c7
  have hnew : ∀ j, (hide [g, tb] w2).cell? ⟨w.heap.size + 1, j, none⟩ = (#[.int .i64 12539, .slice (some ⟨w.heap.size, 0, none⟩) 2 2] : Array Value)[j]? := fun j => by
    rw [hide_cell, if_neg (by simp; omega), hw2, ← z1]
    exact World.cell?_alloc_new _ _ _ j
  have hto : IntS (hide [g, tb] w2) ⟨some ⟨w.heap.size, 0, none⟩, 2, 2⟩ [7, 8] := (i1.ext x2).hide_ (M := [g, tb]) (by simp; omega)
  refine ⟨⟨(hoth 0 (by omega)).trans h.cells.c0, (hoth 1 (by omega)).trans h.cells.c1, (hoth 2 (by omega)).trans h.cells.c2, (hoth 3 (by omega)).trans h.cells.c3, (hoth 4 (by omega)).trans h.cells.c4, (hoth 5 (by omega)).trans h.cells.c5, (hoth 6 (by omega)).trans h.cells.c6, h7, (hoth 8 (by omega)).trans h.cells.c8, (hoth 9 (by omega)).trans h.cells.c9, (hoth 10 (by omega)).trans h.cells.c10, (hoth 11 (by omega)).trans h.cells.c11⟩,
    h.cat.keep (hide_keep' hk), h.cls.keep (hide_keep' hk), h.joi.keep (hide_keep' hk), h.bid.keep (hide_keep' hk), h.scr.keep (hide_keep' hk), h.sta.keep (hide_keep' hk), h.ign.keep (hide_keep' hk), ⟨⟨rfl, Nat.le_refl _, by simp [maxLen]⟩, fun i x hx => ?_⟩, h.mps.keep (hide_keep' hk), h.dec.keep (hide_keep' hk), h.exc.keep (hide_keep' hk), h.pro.keep (hide_keep' hk)⟩
  match i, hx with
  | 0, hx => simp at hx; subst hx; exact ⟨_, 0, _, _, _, rfl, hnew 0, hnew 1, hto⟩
  | i + 1, hx => simp at hx
theorem tv_all (t : TV) : t.v.cells.all (·.oneCell') = true := by simp [TV.v, Value.cells, Value.oneCell']
theorem Tcells.range {w : World} {tb : Nat} {t : TV} (h : Tcells w tb t) : w.rangeAt tb 0 [.slice t.s0.a t.s0.n t.s0.c, .slice t.s1.a t.s1.n t.s1.c, .slice t.s2.a t.s2.n t.s2.c, .slice t.s3.a t.s3.n t.s3.c, .slice t.s4.a t.s4.n t.s4.c, .slice t.s5.a t.s5.n t.s5.c, .slice t.s6.a t.s6.n t.s6.c, .slice t.s7.a t.s7.n t.s7.c, .slice t.s8.a t.s8.n t.s8.c, .slice t.s9.a t.s9.n t.s9.c, .slice t.s10.a t.s10.n t.s10.c, .slice t.s11.a t.s11.n t.s11.c] := by
  intro j v hj
  rw [Nat.zero_add]
  match j, hj with
  | 0, hj => simp at hj; subst hj; exact h.c0
  | 1, hj => simp at hj; subst hj; exact h.c1
  | 2, hj => simp at hj; subst hj; exact h.c2
  | 3, hj => simp at hj; subst hj; exact h.c3
  | 4, hj => simp at hj; subst hj; exact h.c4
  | 5, hj => simp at hj; subst hj; exact h.c5
  | 6, hj => simp at hj; subst hj; exact h.c6
  | 7, hj => simp at hj; subst hj; exact h.c7
  | 8, hj => simp at hj; subst hj; exact h.c8
  | 9, hj => simp at hj; subst hj; exact h.c9
  | 10, hj => simp at hj; subst hj; exact h.c10
  | 11, hj => simp at hj; subst hj; exact h.c11
  | j + 12, hj => simp at hj
end Go.Proofs.YtmgckljgkdahfaaGreatDoor
