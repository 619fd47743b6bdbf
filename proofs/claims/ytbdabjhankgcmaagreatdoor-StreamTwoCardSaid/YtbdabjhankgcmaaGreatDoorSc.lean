/- Walks: table.Copy, stream.New, the reference's NewStream. -/
import Derived.Test.YtbdabjhankgcmaaGreatDoorSt
import Derived.Test.YtbdabjhankgcmaaGreatDoorOh
import Derived.Test.YtbdabjhankgcmaaGreatDoorCk
import Derived.Deep.LoopGhost
import Derived.Laws.Tables
import Derived.Laws.Rows
import Derived.Deep.MidRow
namespace Go.Proofs.YtbdabjhankgcmaaGreatDoor
open Go.RowKit
def colL7 (T : Tbl) : List (List Sp) := [T.cat, T.cls, T.joi, T.bid, T.scr, T.sta, T.ign]
def mapL4 (T : Tbl) : List (List Mp) := [T.ext, T.mps, T.dec, T.pro]
def fld4 (i : Nat) : Nat := if i = 3 then 11 else 7 + i
structure Brief (T : Tbl) : Prop where
 sp : ∀ L ∈ colL7 T, L.length ≤ 1000
 mp : ∀ L ∈ mapL4 T, L.length ≤ 1000 ∧ ∀ m ∈ L, m.to.length ≤ 18
 ex : T.exc.length ≤ 1000
theorem targetsL_le {i : Int} : ∀ {l : List Mp}, targetsL i l = true → ∀ m ∈ l, m.to.length ≤ 18
 | [], _, m, hm => by cases hm
 | x :: r, h, m, hm => by
  simp only [targetsL, Bool.and_eq_true, Bool.not_eq_true', Bool.or_eq_false_iff, decide_eq_false_iff_not] at h
  rcases List.mem_cons.1 hm with rfl | hm
  ·have := h.1.1.2
   omega
  ·exact targetsL_le h.2 m hm
theorem brief_of {T : Tbl} (h : wfB T = true) : Brief T := by
 simp only [wfB, Bool.and_eq_true] at h
 have h1 := h.1.1.1.1.1.1.1.1
 have h2 := h.1.1.1.1.1.2
 simp only [rowsB, cols, rowsC, maps, rowsM, Bool.and_eq_true, decide_eq_true_eq] at h1
 simp only [targetsB, maps, targetsM, Bool.and_eq_true] at h2
 refine ⟨fun L hL => ?_, fun L hL => ?_, by omega⟩
 ·simp only [colL7, List.mem_cons, List.not_mem_nil, or_false] at hL
  rcases hL with rfl | rfl | rfl | rfl | rfl | rfl | rfl <;> omega
 ·simp only [mapL4, List.mem_cons, List.not_mem_nil, or_false] at hL
  rcases hL with rfl | rfl | rfl | rfl
  ·exact ⟨by omega, targetsL_le h2.1⟩
  ·exact ⟨by omega, targetsL_le h2.2.1⟩
  ·exact ⟨by omega, targetsL_le h2.2.2.1⟩
  ·exact ⟨by omega, targetsL_le h2.2.2.2.1⟩
def ColA (M : List Nat) (w : World) (tb j : Nat) (L : List Sp) : Prop := ∃ A n c, w.cell? ⟨tb, j, none⟩ = some (.slice A n c) ∧ SpanS (hide M w) ⟨A, n, c⟩ L ∧ w.frozen? ⟨tb, j, none⟩ = false
theorem ColA.kp {M N : List Nat} {w w' : World} {tb j : Nat} {L : List Sp} (h : ColA M w tb j L) (hk : Kp N w w') (hN : ∀ b ∈ N, b ∈ M ∨ w.heap.size ≤ b) (ht : tb ∉ N) : ColA M w' tb j L := by
 obtain ⟨A, n, c, h1, h2, h3⟩ := h
 have hlt := World.block_lt_of_cell? w _ h1
 exact ⟨A, n, c, by rw [hk.cell _ hlt ht]; exact h1, h2.keep (hide_keep' (hk.mono hN)), by rw [hk.frozen ⟨tb, j, none⟩ hlt ht]; exact h3⟩
def MapAt (M : List Nat) (w : World) (tb j : Nat) (L : List Mp) : Prop := ∃ A n c, w.cell? ⟨tb, j, none⟩ = some (.slice A n c) ∧ MapS (hide M w) ⟨A, n, c⟩ L ∧ w.frozen? ⟨tb, j, none⟩ = false
theorem MapAt.kp {M N : List Nat} {w w' : World} {tb j : Nat} {L : List Mp} (h : MapAt M w tb j L) (hk : Kp N w w') (hN : ∀ b ∈ N, b ∈ M ∨ w.heap.size ≤ b) (ht : tb ∉ N) : MapAt M w' tb j L := by
 obtain ⟨A, n, c, h0, h1, h2⟩ := h
 have hlt := World.block_lt_of_cell? w _ h0
 exact ⟨A, n, c, by rw [hk.cell ⟨tb, j, none⟩ hlt ht]; exact h0, h1.keep (hide_keep' (hk.mono hN)), by rw [hk.frozen ⟨tb, j, none⟩ hlt ht]; exact h2⟩
structure CpB (M : List Nat) (w w3 : World) (b0 : Nat) (t : TV) (T : Tbl) (k m : Nat) (wx : World) : Prop where
 ext : Ext w wx
 kp : Kp [b0] w3 wx
 fr : ∀ j : Nat, wx.frozen? ⟨b0, j, none⟩ = false
 old : ∀ j : Nat, (7 ≤ j ∨ k ≤ j) → (∀ i, i < m → fld4 i ≠ j) → wx.cell? ⟨b0, j, none⟩ = t.v.cells[j]?
 sp : ∀ j L, j < k → (colL7 T)[j]? = some L → ColA M wx b0 j L
 mp : ∀ i L, i < m → (mapL4 T)[i]? = some L → MapAt M wx b0 (fld4 i) L
section
variable {M : List Nat} {w w3 wx w' : World} {b0 : Nat} {t : TV} {T : Tbl} {k m : Nat}
theorem CpB.ext_ (h : CpB M w w3 b0 t T k m wx) (hx : Ext wx w') (hb : b0 < w3.heap.size) : CpB M w w3 b0 t T k m w' := by
 have hk : Kp [] wx w' := Kp.ofExt hx
 have hl : b0 < wx.heap.size := Nat.lt_of_lt_of_le hb h.kp.size
 exact ⟨h.ext.trans' hx, h.kp.step hk (fun _ h => by cases h), fun j => by rw [hk.frozen ⟨b0, j, none⟩ hl (by simp)]; exact h.fr j, fun j h1 h2 => by rw [hk.cell ⟨b0, j, none⟩ hl (by simp)]; exact h.old j h1 h2,
  fun j L h1 h2 => (h.sp j L h1 h2).kp hk (fun _ h => by cases h) (by simp), fun i L h1 h2 => (h.mp i L h1 h2).kp hk (fun _ h => by cases h) (by simp)⟩
theorem src7 (ht : TblS w t T) {k : Nat} (hk : k < 7) : ∃ A n c L, t.v.cells[k]? = some (.slice A n c) ∧ (colL7 T)[k]? = some L ∧ SpanS w ⟨A, n, c⟩ L := by
 match k, hk with
 | 0, _ => exact ⟨_, _, _, _, rfl, rfl, ht.cat⟩
 | 1, _ => exact ⟨_, _, _, _, rfl, rfl, ht.cls⟩
 | 2, _ => exact ⟨_, _, _, _, rfl, rfl, ht.joi⟩
 | 3, _ => exact ⟨_, _, _, _, rfl, rfl, ht.bid⟩
 | 4, _ => exact ⟨_, _, _, _, rfl, rfl, ht.scr⟩
 | 5, _ => exact ⟨_, _, _, _, rfl, rfl, ht.sta⟩
 | 6, _ => exact ⟨_, _, _, _, rfl, rfl, ht.ign⟩
theorem src4 (ht : TblS w t T) {m : Nat} (hm : m < 4) : ∃ A n c L, t.v.cells[fld4 m]? = some (.slice A n c) ∧ (mapL4 T)[m]? = some L ∧ MapS w ⟨A, n, c⟩ L := by
 match m, hm with
 | 0, _ => exact ⟨_, _, _, _, rfl, rfl, ht.ext⟩
 | 1, _ => exact ⟨_, _, _, _, rfl, rfl, ht.mps⟩
 | 2, _ => exact ⟨_, _, _, _, rfl, rfl, ht.dec⟩
 | 3, _ => exact ⟨_, _, _, _, rfl, rfl, ht.pro⟩
theorem fld4_inj {i j : Nat} (hi : i < 4) (hj : j < 4) (h : fld4 i = fld4 j) : i = j := by
 unfold fld4 at h
 split at h <;> split at h <;> omega
theorem cell_put {v u : Value} (h : wx.cell? ⟨b0, k, none⟩ = some u) : (wx.setCell ⟨b0, k, none⟩ v).cell? ⟨b0, k, none⟩ = some v := World.cell?_setCell_same _ _ _ h
theorem cell_off {v : Value} {j : Nat} (h : j ≠ k) : (wx.setCell ⟨b0, k, none⟩ v).cell? ⟨b0, j, none⟩ = wx.cell? ⟨b0, j, none⟩ := World.cell?_setCell_other _ _ _ _ (by intro e; injection e with _ e; exact h e.symm)
theorem CpB.put1 {L : List Sp} {A : Option Addr} {n c : Nat} (h : CpB M w w3 b0 t T k 0 wx) (hM : b0 ∈ M) (hb : w.heap.size ≤ b0) (hk : k < 7) (hL : (colL7 T)[k]? = some L) (hs : SpanS (hide M wx) ⟨A, n, c⟩ L) :
  CpB M w w3 b0 t T (k + 1) 0 (wx.setCell ⟨b0, k, none⟩ (.slice A n c)) := by
 have hkp := Kp.setCell [b0] wx ⟨b0, k, none⟩ (.slice A n c) (by simp)
 have hin : ∀ b ∈ [b0], b ∈ M ∨ wx.heap.size ≤ b := fun b hb => by rw [List.mem_singleton] at hb; subst hb; exact .inl hM
 have hold : ∃ u, wx.cell? ⟨b0, k, none⟩ = some u := by
  rw [h.old k (.inr (Nat.le_refl _)) (fun i hi => by omega)]
  match k, hk with
  | 0, _ | 1, _ | 2, _ | 3, _ | 4, _ | 5, _ | 6, _ => exact ⟨_, rfl⟩
 obtain ⟨u, hu⟩ := hold
 refine ⟨h.ext.setCell_ hb _, h.kp.step hkp (fun b hb => .inl hb), fun j => by rw [World.frozen?_setCell]; exact h.fr j, fun j h1 h2 => ?_, fun j L' h1 h2 => ?_, fun i _ hi => by omega⟩
 ·rw [cell_off (by omega)]
  exact h.old j (by omega) h2
 ·by_cases hj : j = k
  ·subst hj
   rw [hL] at h2
   injection h2 with h2
   subst h2
   exact ⟨A, n, c, cell_put hu, hs.keep (hide_keep' (hkp.mono hin)), by rw [World.frozen?_setCell]; exact h.fr j⟩
  ·obtain ⟨A', n', c', h3, h4, h5⟩ := h.sp j L' (by omega) h2
   exact ⟨A', n', c', by rw [cell_off hj]; exact h3, h4.keep (hide_keep' (hkp.mono hin)), by rw [World.frozen?_setCell]; exact h5⟩
theorem CpB.put2 {L : List Mp} {A : Option Addr} {n c : Nat} (h : CpB M w w3 b0 t T 7 m wx) (hM : b0 ∈ M) (hb : w.heap.size ≤ b0) (hm : m < 4) (hL : (mapL4 T)[m]? = some L) (hs : MapS (hide M wx) ⟨A, n, c⟩ L) :
  CpB M w w3 b0 t T 7 (m + 1) (wx.setCell ⟨b0, fld4 m, none⟩ (.slice A n c)) := by
 have hkp := Kp.setCell [b0] wx ⟨b0, fld4 m, none⟩ (.slice A n c) (by simp)
 have hin : ∀ b ∈ [b0], b ∈ M ∨ wx.heap.size ≤ b := fun b hb => by rw [List.mem_singleton] at hb; subst hb; exact .inl hM
 have h7 : 7 ≤ fld4 m := by unfold fld4; split <;> omega
 have hold : ∃ u, wx.cell? ⟨b0, fld4 m, none⟩ = some u := by
  rw [h.old (fld4 m) (.inl h7) (fun i hi e => by have := fld4_inj (by omega) hm e; omega)]
  match m, hm with
  | 0, _ | 1, _ | 2, _ | 3, _ => exact ⟨_, rfl⟩
 obtain ⟨u, hu⟩ := hold
 refine ⟨h.ext.setCell_ hb _, h.kp.step hkp (fun b hb => .inl hb), fun j => by rw [World.frozen?_setCell]; exact h.fr j, fun j h1 h2 => ?_, fun j L' h1 h2 => ?_, fun i L' hi h2 => ?_⟩
 ·rw [cell_off (fun e => h2 m (by omega) e.symm)]
  exact h.old j h1 (fun i hi => h2 i (by omega))
 ·obtain ⟨A', n', c', h3, h4, h5⟩ := h.sp j L' h1 h2
  exact ⟨A', n', c', by rw [cell_off (by omega)]; exact h3, h4.keep (hide_keep' (hkp.mono hin)), by rw [World.frozen?_setCell]; exact h5⟩
 ·by_cases hj : i = m
  ·subst hj
   rw [hL] at h2
   injection h2 with h2
   subst h2
   exact ⟨A, n, c, cell_put hu, hs.keep (hide_keep' (hkp.mono hin)), by rw [World.frozen?_setCell]; exact h.fr _⟩
  ·obtain ⟨A', n', c', h3, h4, h5⟩ := h.mp i L' (by omega) h2
   exact ⟨A', n', c', by rw [cell_off (fun e => hj (fld4_inj (by omega) hm e))]; exact h3, h4.keep (hide_keep' (hkp.mono hin)), by rw [World.frozen?_setCell]; exact h5⟩
theorem CpB.fin {A : Option Addr} {n c : Nat} (h : CpB M w w3 b0 t T 7 4 wx) (hM : b0 ∈ M) (hb : w.heap.size ≤ b0) (hs : IntS (hide M wx) ⟨A, n, c⟩ T.exc) (hg : Glob (hide M wx)) :
  ∃ t' : TV, (∀ j : Nat, (wx.setCell ⟨b0, 10, none⟩ (.slice A n c)).cell? ⟨b0, j, none⟩ = t'.v.cells[j]?) ∧ TblS (hide M (wx.setCell ⟨b0, 10, none⟩ (.slice A n c))) t' T := by
 have hkp := Kp.setCell [b0] wx ⟨b0, 10, none⟩ (.slice A n c) (by simp)
 have hin : ∀ b ∈ [b0], b ∈ M ∨ wx.heap.size ≤ b := fun b hb => by rw [List.mem_singleton] at hb; subst hb; exact .inl hM
 have hk := hide_keep' (hkp.mono hin)
 have hup : ∀ p v, (hide M wx).cell? p = some v → (hide M (wx.setCell ⟨b0, 10, none⟩ (.slice A n c))).cell? p = some v := fun p v hp => by rw [hk p (World.block_lt_of_cell? _ _ hp)]; exact hp
 have h10 := h.old 10 (.inl (by omega)) (fun i hi e => by unfold fld4 at e; split at e <;> omega)
 obtain ⟨A0, n0, c0, e0, s0, _⟩ := h.sp 0 _ (by omega) rfl
 obtain ⟨A1, n1, c1, e1, s1, _⟩ := h.sp 1 _ (by omega) rfl
 obtain ⟨A2, n2, c2, e2, s2, _⟩ := h.sp 2 _ (by omega) rfl
 obtain ⟨A3, n3, c3, e3, s3, _⟩ := h.sp 3 _ (by omega) rfl
 obtain ⟨A4, n4, c4, e4, s4, _⟩ := h.sp 4 _ (by omega) rfl
 obtain ⟨A5, n5, c5, e5, s5, _⟩ := h.sp 5 _ (by omega) rfl
 obtain ⟨A6, n6, c6, e6, s6, _⟩ := h.sp 6 _ (by omega) rfl
 obtain ⟨A7, n7, c7, e7, s7, _⟩ := h.mp 0 _ (by omega) rfl
 obtain ⟨A8, n8, c8, e8, s8, _⟩ := h.mp 1 _ (by omega) rfl
 obtain ⟨A9, n9, c9, e9, s9, _⟩ := h.mp 2 _ (by omega) rfl
 obtain ⟨A11, n11, c11, e11, s11, _⟩ := h.mp 3 _ (by omega) rfl
 refine ⟨⟨⟨A0, n0, c0⟩, ⟨A1, n1, c1⟩, ⟨A2, n2, c2⟩, ⟨A3, n3, c3⟩, ⟨A4, n4, c4⟩, ⟨A5, n5, c5⟩, ⟨A6, n6, c6⟩, ⟨A7, n7, c7⟩, ⟨A8, n8, c8⟩, ⟨A9, n9, c9⟩, ⟨A, n, c⟩, ⟨A11, n11, c11⟩⟩, fun j => ?_,
  ⟨s0.sub hup, s1.sub hup, s2.sub hup, s3.sub hup, s4.sub hup, s5.sub hup, s6.sub hup, s7.sub hup, s8.sub hup, s9.sub hup, hs.sub hup, s11.sub hup, hg.sub hup⟩⟩
 by_cases hj : j = 10
 ·subst hj
  exact cell_put (h10.trans rfl)
 ·rw [cell_off hj]
  match j with
  | 0 => exact e0
  | 1 => exact e1
  | 2 => exact e2
  | 3 => exact e3
  | 4 => exact e4
  | 5 => exact e5
  | 6 => exact e6
  | 7 => exact e7
  | 8 => exact e8
  | 9 => exact e9
  | 10 => exact absurd rfl hj
  | 11 => exact e11
  | j + 12 => exact h.old (j + 12) (.inl (by omega)) (fun i hi e => by unfold fld4 at e; split at e <;> omega)
end
theorem OwnI.hidden {w : World} {base n c : Nat} {A : Option Addr} {l : List Int} (h : OwnI w base A n c l) {M : List Nat} (hM : ∀ b ∈ M, b < base) : IntS (hide M w) ⟨A, n, c⟩ l := by
 have hi := OwnI.ints h
 refine ⟨hi.1, fun i x hx => ?_⟩
 obtain ⟨b, o, ha, hc⟩ := hi.2 i x hx
 refine ⟨b, o, ha, ?_⟩
 rw [hide_cell, if_neg]
 ·exact hc
 ·intro hm
  have h1 := (Own.lt h b (by rw [show A = _ from ha]; rfl)).1
  have h2 : b < base := hM b hm
  omega
theorem mp_next {M : List Nat} {w w' : World} {base n c : Nat} {A A' : Option Addr} {L : List Mp} (h : OwnMp (w.heap.size :: M) w' base A' n c L) (hat : blkOf A' = blkOf A ∨ blkOf A' = some w.heap.size) (hA : ∀ b, blkOf A = some b → b ∈ M)
  (hM : ∀ b ∈ M, b < w.heap.size) (hz : w.heap.size ≤ w'.heap.size) : ∃ M', OwnMp M' w' base A' n c L ∧ (∀ b, blkOf A' = some b → b ∈ M') ∧ (∀ b ∈ M, b ∈ M') ∧ (∀ b ∈ M', b < w'.heap.size) := by
 rcases hat with hat | hat
 ·exact ⟨M, h.less (fun b hb => by simp [hb]), fun b hb => hA b (by rw [← hat]; exact hb), fun _ h => h, fun b hb => Nat.lt_of_lt_of_le (hM b hb) hz⟩
 ·refine ⟨_, h, fun b hb => by rw [hat] at hb; injection hb with hb; simp [hb], fun b hb => by simp [hb], fun b hb => ?_⟩
  rcases List.mem_cons.1 hb with rfl | hb
  ·exact (h.lt _ hat).2
  ·exact Nat.lt_of_lt_of_le (hM b hb) hz
theorem hide_on {N M : List Nat} {w w' : World} (hx : Ext w w') (hM : ∀ b ∈ M, b ∈ N ∨ w.heap.size ≤ b) : ∀ p v, (hide N w).cell? p = some v → (hide M w').cell? p = some v := by
 intro p v hp
 have hl := World.block_lt_of_cell? _ _ hp
 rw [hide_size] at hl
 rw [hide_cell] at hp ⊢
 by_cases hn : p.block ∈ N
 ·rw [if_pos hn] at hp; cases hp
 ·rw [if_neg hn] at hp
  rw [if_neg (fun hm => (hM _ hm).elim hn (fun h => by omega))]
  exact keep_cell (ext_keep hx) hp
def CpIn (M : List Nat) (wb : World) (L : List Mp) (gh : Nat) (s7 s44 : Value) (wx : World) : Prop :=
 ∃ (i : Nat) (A : Option Addr) (c : Nat) (M' : List Nat), i + gh = L.length ∧ s44 = .int .i64 i ∧ s7 = .slice A i c ∧ Hid (OwnMp M' wx wb.heap.size A i c (L.take i)) ∧ Hid (∀ b, blkOf A = some b → b ∈ M') ∧ Hid (∀ b ∈ M, b ∈ M') ∧ Hid (∀ b ∈ M', b < wx.heap.size) ∧ Hid (Ext wb wx)
set_option maxHeartbeats 12800000 in
set_option maxRecDepth 100000 in
theorem copy_spec (N : List Nat) (t : TV) (T : Tbl) (w : World) (ht : TblS w t T) (hbr : Brief T) (hN : ∀ b ∈ N, b < w.heap.size) (hg : Glob (hide N w)) :
  Calls Tryz.prog 64 #[t.v] w fun e w' => ∃ t' : TV, e = .returned t'.v ∧ Ext w w' ∧ TblS (hide N w') t' T := by
 obtain ⟨w2, hw2⟩ : ∃ w2, w2 = (w.alloc (.cells #[.slice t.s0.a t.s0.n t.s0.c, .slice t.s1.a t.s1.n t.s1.c, .slice t.s2.a t.s2.n t.s2.c, .slice t.s3.a t.s3.n t.s3.c, .slice t.s4.a t.s4.n t.s4.c, .slice t.s5.a t.s5.n t.s5.c, .slice t.s6.a t.s6.n t.s6.c, .slice t.s7.a t.s7.n t.s7.c, .slice t.s8.a t.s8.n t.s8.c, .slice t.s9.a t.s9.n t.s9.c, .slice t.s10.a t.s10.n t.s10.c, .slice t.s11.a t.s11.n t.s11.c] 26)).alloc (.cells #[.slice none 0 0, .slice none 0 0, .slice none 0 0, .slice none 0 0, .slice none 0 0, .slice none 0 0, .slice none 0 0, .slice none 0 0, .slice none 0 0, .slice none 0 0, .slice none 0 0, .slice none 0 0] 26) := ⟨_, rfl⟩
 have hx2 : Ext (w.alloc (.cells #[.slice t.s0.a t.s0.n t.s0.c, .slice t.s1.a t.s1.n t.s1.c, .slice t.s2.a t.s2.n t.s2.c, .slice t.s3.a t.s3.n t.s3.c, .slice t.s4.a t.s4.n t.s4.c, .slice t.s5.a t.s5.n t.s5.c, .slice t.s6.a t.s6.n t.s6.c, .slice t.s7.a t.s7.n t.s7.c, .slice t.s8.a t.s8.n t.s8.c, .slice t.s9.a t.s9.n t.s9.c, .slice t.s10.a t.s10.n t.s10.c, .slice t.s11.a t.s11.n t.s11.c] 26)) w2 := by rw [hw2]; exact (Ext.refl _).alloc_ _
 have hxw : Ext w w2 := ((Ext.refl w).alloc_ _).trans' hx2
 have z2 : w2.heap.size = w.heap.size + 2 := by rw [hw2]; simp
 have hR2 : w2.heap[w.heap.size + 1]? = some (.cells nil12 26 (0, 0)) := by
  rw [hw2]
  have h := heap_alloc_new (w.alloc (.cells #[.slice t.s0.a t.s0.n t.s0.c, .slice t.s1.a t.s1.n t.s1.c, .slice t.s2.a t.s2.n t.s2.c, .slice t.s3.a t.s3.n t.s3.c, .slice t.s4.a t.s4.n t.s4.c, .slice t.s5.a t.s5.n t.s5.c, .slice t.s6.a t.s6.n t.s6.c, .slice t.s7.a t.s7.n t.s7.c, .slice t.s8.a t.s8.n t.s8.c, .slice t.s9.a t.s9.n t.s9.c, .slice t.s10.a t.s10.n t.s10.c, .slice t.s11.a t.s11.n t.s11.c] 26)) (.cells #[.slice none 0 0, .slice none 0 0, .slice none 0 0, .slice none 0 0, .slice none 0 0, .slice none 0 0, .slice none 0 0, .slice none 0 0, .slice none 0 0, .slice none 0 0, .slice none 0 0, .slice none 0 0] 26)
  rw [show (w.alloc (.cells #[.slice t.s0.a t.s0.n t.s0.c, .slice t.s1.a t.s1.n t.s1.c, .slice t.s2.a t.s2.n t.s2.c, .slice t.s3.a t.s3.n t.s3.c, .slice t.s4.a t.s4.n t.s4.c, .slice t.s5.a t.s5.n t.s5.c, .slice t.s6.a t.s6.n t.s6.c, .slice t.s7.a t.s7.n t.s7.c, .slice t.s8.a t.s8.n t.s8.c, .slice t.s9.a t.s9.n t.s9.c, .slice t.s10.a t.s10.n t.s10.c, .slice t.s11.a t.s11.n t.s11.c] 26)).heap.size = w.heap.size + 1 from by simp] at h
  exact h
 obtain ⟨M, hM⟩ : ∃ M, M = N ++ [w.heap.size, w.heap.size + 1] := ⟨_, rfl⟩
 have hM0 : w.heap.size ∈ M := by rw [hM]; simp
 have hM1 : w.heap.size + 1 ∈ M := by rw [hM]; simp
 have HMN : Hid (∀ b ∈ N, b ∈ M) := Lib.hid (fun b hb => by rw [hM]; simp [hb])
 have HML : Hid (∀ b ∈ M, b < w2.heap.size) := Lib.hid (fun b hb => by
  rw [hM] at hb
  simp only [List.mem_append, List.mem_cons, List.not_mem_nil, or_false] at hb
  rcases hb with hb | rfl | rfl
  ·have := hN b hb
   omega
  ·omega
  ·omega)
 have HMG : Hid (∀ b ∈ M, b ∈ N ∨ w.heap.size ≤ b) := Lib.hid (fun b hb => by
  rw [hM] at hb
  simp only [List.mem_append, List.mem_cons, List.not_mem_nil, or_false] at hb
  rcases hb with hb | rfl | rfl
  ·exact .inl hb
  ·exact .inr (by omega)
  ·exact .inr (by omega))
 have H0 : Hid (CpB M w w2 w.heap.size t T 0 0 w2) := Lib.hid ⟨hxw, Kp.refl _ _, fun j => by rw [hx2.b.frozen (p := ⟨w.heap.size, j, none⟩) (by simp)]; exact World.frozen?_alloc_at _ _ _ _ rfl, fun j _ _ => box_at hx2 j, fun j L h => by omega, fun i L h => by omega⟩
 have HR2 := Lib.hid hR2
 have HT := Lib.hid ht
 have HBR := Lib.hid hbr
 have HG := Lib.hid hg
 clear ht hbr hN hg hxw hx2 hR2 hM
 go_enter Tryz.func64, Tryz.ntmps64
 go_wp2_with fail
 rw [← hw2]
 clear hw2
 obtain ⟨w3, hw3⟩ : ∃ w3, w3 = w2.alloc (.cells #[.pointer (some ⟨w.heap.size, 0, none⟩), .pointer (some ⟨w.heap.size, 1, none⟩), .pointer (some ⟨w.heap.size, 2, none⟩), .pointer (some ⟨w.heap.size, 3, none⟩), .pointer (some ⟨w.heap.size, 4, none⟩), .pointer (some ⟨w.heap.size, 5, none⟩), .pointer (some ⟨w.heap.size, 6, none⟩)] 69) := ⟨_, rfl⟩
 rw [← hw3]
 have hx3 : Ext w2 w3 := by rw [hw3]; exact (Ext.refl _).alloc_ _
 have z3 : w3.heap.size = w.heap.size + 3 := by rw [hw3]; simp; omega
 have HP : Hid (∀ k, k < 7 → w3.cell? ⟨w.heap.size + 1 + 1, k, none⟩ = some (.pointer (some ⟨w.heap.size, k, none⟩))) := Lib.hid (fun k hk => by
  rw [hw3, show w.heap.size + 1 + 1 = w2.heap.size from by omega]
  match k, hk with
  | 0, _ => exact World.cell?_alloc_new w2 _ _ 0
  | 1, _ => exact World.cell?_alloc_new w2 _ _ 1
  | 2, _ => exact World.cell?_alloc_new w2 _ _ 2
  | 3, _ => exact World.cell?_alloc_new w2 _ _ 3
  | 4, _ => exact World.cell?_alloc_new w2 _ _ 4
  | 5, _ => exact World.cell?_alloc_new w2 _ _ 5
  | 6, _ => exact World.cell?_alloc_new w2 _ _ 6)
 have H1 := Lib.hid (H0.out.ext_ hx3 (by omega))
 clear hw3 H0 hx3
 go_loopg [19] 7 (fun gh s19 wx => ∃ k : Nat, k + gh = 7 ∧ s19 = .int .i64 k ∧ Hid (CpB M w w2 w.heap.size t T k 0 wx) ∧ Hid (Kp [w.heap.size] w3 wx))
 case atStart => exact ⟨0, rfl, rfl, H1, Lib.hid (Kp.refl _ _)⟩
 case round =>
  obtain ⟨k, hkg, rfl, HC, HK⟩ := hrel
  have hz := HK.out.size
  by_cases hlt : k < 7
  ·obtain ⟨gk', rfl⟩ : ∃ g', gk = g' + 1 := ⟨gk - 1, by omega⟩
   obtain ⟨A, n, c, L, hs, hL, hsp⟩ := src7 HT.out hlt
   have hcell : wr.cell? ⟨w.heap.size, k, none⟩ = some (.slice A n c) := (HC.out.old k (.inr (Nat.le_refl _)) (fun i hi => by omega)).trans hs
   have hptr : wr.cell? ⟨w.heap.size + 1 + 1, k, none⟩ = some (.pointer (some ⟨w.heap.size, k, none⟩)) := (HK.out.cell ⟨w.heap.size + 1 + 1, k, none⟩ (by show w.heap.size + 1 + 1 < w3.heap.size; omega) (by simp; omega)).trans (HP.out k hlt)
   have hfr := HC.out.fr k
   have HSP := Lib.hid (hsp.ext HC.out.ext)
   have HBL : Hid (n ≤ 1000) := Lib.hid (by have h1 := hsp.len.1; have h2 := HBR.out.sp L (List.mem_of_getElem? hL); omega)
   have HL := Lib.hid hL
   have hk0 : (0 : Int) ≤ (k : Int) := Int.natCast_nonneg _
   have hk1 : (k : Int) < 7 := by omega
   clear hs hL hsp
   go_wp2_with (at_builtin
                refine wpList_copy_spans rfl _ _ rfl wr.heap.size rfl rfl HSP.out (by have := HBL.out; omega) (Nat.le_refl _) ?_
                intro A4 c4 w4 hown4 hgr4
                have hx4 : Ext wr w4 := ext_of_grown (Ext.refl _) hgr4 (by intro k hk; cases hk)
                have hc4 := keep_cell (ext_keep hx4) hcell
                have hf4 := (hx4.b.frozen (p := ⟨w.heap.size, k, none⟩) (by show w.heap.size < wr.heap.size; omega)).trans hfr
                have HO4 := Lib.hid hown4
                have HX4 := Lib.hid hx4
                clear hown4 hgr4 hx4)
   go_roundg gk'
   case measure => omega
   case rel => exact ⟨k + 1, by omega, by go_num, Lib.hid ((HC.out.ext_ HX4.out (by omega)).put1 hM0 (Nat.le_refl _) hlt HL.out (OwnSp.hidden HO4.out (fun b hb => by have := HML.out b hb; omega))), Lib.hid ((HK.out.trans (Kp.ofExt HX4.out)).trans (Kp.setCell _ _ _ _ (by simp)))⟩
  ·obtain rfl : k = 7 := by omega
   go_wp2_with fail
   obtain ⟨w5, hw5⟩ : ∃ w5, w5 = wr.alloc (.cells #[.pointer (some ⟨w.heap.size, 7, none⟩), .pointer (some ⟨w.heap.size, 8, none⟩), .pointer (some ⟨w.heap.size, 9, none⟩), .pointer (some ⟨w.heap.size, 11, none⟩)] 109) := ⟨_, rfl⟩
   rw [← hw5]
   have hx5 : Ext wr w5 := by rw [hw5]; exact (Ext.refl _).alloc_ _
   have z5 : w5.heap.size = wr.heap.size + 1 := by rw [hw5]; simp
   have HP5 : Hid (∀ i, i < 4 → w5.cell? ⟨wr.heap.size, i, none⟩ = some (.pointer (some ⟨w.heap.size, fld4 i, none⟩))) := Lib.hid (fun i hi => by
    rw [hw5]
    match i, hi with
    | 0, _ => exact World.cell?_alloc_new wr _ _ 0
    | 1, _ => exact World.cell?_alloc_new wr _ _ 1
    | 2, _ => exact World.cell?_alloc_new wr _ _ 2
    | 3, _ => exact World.cell?_alloc_new wr _ _ 3)
   have H5 := Lib.hid (HC.out.ext_ hx5 (by omega))
   clear hw5 hx5 HC HK HP H1 hlt hkg
   obtain ⟨wa, rfl⟩ : ∃ wa : World, wa = wr := ⟨_, rfl⟩
   go_loopg [36] 4 (fun gh s36 wx => ∃ m : Nat, m + gh = 4 ∧ s36 = .int .i64 m ∧ Hid (CpB M w w2 w.heap.size t T 7 m wx) ∧ Hid (Kp [w.heap.size] w5 wx))
   case atStart => exact ⟨0, rfl, rfl, H5, Lib.hid (Kp.refl _ _)⟩
   case round =>
    obtain ⟨m, hmg, rfl, HC, HK⟩ := hrel
    have hzr := HK.out.size
    by_cases hlt : m < 4
    ·obtain ⟨gk', rfl⟩ : ∃ g', gk = g' + 1 := ⟨gk - 1, by omega⟩
     obtain ⟨A, n, c, L, hs, hL, hmp⟩ := src4 HT.out hlt
     have hcell : wr.cell? ⟨w.heap.size, fld4 m, none⟩ = some (.slice A n c) := (HC.out.old (fld4 m) (.inl (by unfold fld4; split <;> omega)) (fun i hi e => by have := fld4_inj (by omega) hlt e; omega)).trans hs
     have hptr : wr.cell? ⟨wa.heap.size, m, none⟩ = some (.pointer (some ⟨w.heap.size, fld4 m, none⟩)) := (HK.out.cell ⟨wa.heap.size, m, none⟩ (by show wa.heap.size < w5.heap.size; omega) (by simp; omega)).trans (HP5.out m hlt)
     have hfr := HC.out.fr (fld4 m)
     have HMP := Lib.hid (hmp.ext HC.out.ext)
     have HBL := Lib.hid (HBR.out.mp L (List.mem_of_getElem? hL))
     have HL := Lib.hid hL
     have hn := hmp.len.1
     subst hn
     have hk0 : (0 : Int) ≤ (m : Int) := Int.natCast_nonneg _
     have hk1 : (m : Int) < 4 := by omega
     clear hs hL hmp
     go_wp2_with fail
     obtain ⟨wb, rfl⟩ : ∃ wb : World, wb = wr := ⟨_, rfl⟩
     go_loopg [7, 44] L.length (fun gh s7 s44 wx => CpIn M wb L gh s7 s44 wx)
     case atStart => exact ⟨0, none, 0, M, by omega, rfl, rfl, Lib.hid (OwnMp.nil_ _ _ _), Lib.hid (fun b hb => by cases hb), Lib.hid (fun _ h => h), Lib.hid (fun b hb => by have := HML.out b hb; omega), Lib.hid (Ext.refl _)⟩
     case round =>
      obtain ⟨i, A7, c7, M7, hig, rfl, rfl, HO, HAM, HMM, HMS, HBX⟩ := hrel
      have hzb := HBX.out.b.size
      by_cases hli : i < L.length
      ·obtain ⟨gi, rfl⟩ : ∃ g', gk = g' + 1 := ⟨gk - 1, by omega⟩
       obtain ⟨b, o, za, zn, zc, hA, hc0, hc1, hzi⟩ := (HMP.out.ext HBX.out).at_ hli
       have HZ := Lib.hid hzi
       have HZL : Hid (zn ≤ 18) := Lib.hid (by have h1 := hzi.len.1; have h2 := HBL.out.2 _ (List.getElem_mem hli); omega)
       have HTK : Hid (L.take (i + 1) = L.take i ++ [⟨L[i].lo, L[i].to⟩]) := Lib.hid (by rw [List.take_succ_eq_append_getElem hli])
       have hi0 : (0 : Int) ≤ (i : Int) := Int.natCast_nonneg _
       have hi1 : (i : Int) < (L.length : Int) := by omega
       have hlb : L.length ≤ 1000 := HBL.out.1
       subst hA
       generalize L[i].lo = lo at *
       generalize L[i].to = tw at *
       clear hzi
       go_upto_region 13 with fail
       obtain ⟨wo, hwo⟩ : ∃ wo, wo = wr.alloc (.cells #[.int .i64 lo, .slice za zn zc] 74) := ⟨_, rfl⟩
       rw [← hwo]
       have c0 : wo.cell? ⟨wr.heap.size, 0, none⟩ = some (.int .i64 lo) := by rw [hwo]; exact World.cell?_alloc_new wr _ _ 0
       have c1 : wo.cell? ⟨wr.heap.size, 1, none⟩ = some (.slice za zn zc) := by rw [hwo]; exact World.cell?_alloc_new wr _ _ 1
       have zo : wo.heap.size = wr.heap.size + 1 := by rw [hwo]; simp
       have HXO : Hid (Ext wr wo) := Lib.hid (by rw [hwo]; exact (Ext.refl _).alloc_ _)
       have hnM : wr.heap.size ∉ (blkOf A7).toList := by
        rw [Option.mem_toList]
        intro hb
        have := (HO.out.lt _ hb).2
        omega
       clear hwo hc0 hc1 hcell hptr
       refine region_xk (blkOf A7).toList [([0, 1, 2, 3, 4], 5), ([6], 7), ([], 8)] [9] (by kernel_rfl) (by kernel_rfl) ?_
       refine segWK_cons (by repeat (first | exact OpsAre.nil | exact OpAt.zero | apply OpAt.succ | apply OpsAre.cons)) (by repeat (first | exact OpAt.zero | apply OpAt.succ)) ?_
       have rX : ∀ yy : KpW (blkOf A7).toList wo.drew, yy.w.cell? ⟨wr.heap.size, 0, none⟩ = some (.int .i64 lo) := fun yy => (yy.h.cell ⟨wr.heap.size, 0, none⟩ (by show wr.heap.size < wo.heap.size; omega) hnM).trans c0
       have rY : ∀ yy : KpW (blkOf A7).toList wo.drew, yy.w.cell? ⟨wr.heap.size, 1, none⟩ = some (.slice za zn zc) := fun yy => (yy.h.cell ⟨wr.heap.size, 1, none⟩ (by show wr.heap.size < wo.heap.size; omega) hnM).trans c1
       repeat (go_big_quiet_step (fail))
       refine wpQuiet_nil ?_
       clear rX rY c0 c1
       go_wp2_with (at_builtin
                    refine wpList_copy_ints rfl _ _ rfl wo.heap.size rfl rfl (HZ.out.ext (HXO.out.drew_)) (by have := HZL.out; omega) (Nat.le_refl _) ?_
                    intro A5 c5 w6 hown5 hgr5)
       refine segKK_mk (Kp.ofGrown hgr5 (by intro b hb; cases hb)) ?_
       have hx6 : Ext wr w6 := ext_of_grown HXO.out.drew_ hgr5 (by intro k hk; cases hk)
       have HO5 := Lib.hid hown5
       have HX6 := Lib.hid hx6
       clear hown5 hgr5 hx6
       refine segWK_cons (by repeat (first | exact OpsAre.nil | exact OpAt.zero | apply OpAt.succ | apply OpsAre.cons)) (by repeat (first | exact OpAt.zero | apply OpAt.succ)) ?_
       repeat (go_big_quiet_step (fail))
       refine wpQuiet_nil ?_
       go_wp2_with fail
       refine segKK_mk (Kp.ofExt ((Ext.refl _).alloc_ _)) ?_
       obtain ⟨w7, hw7⟩ : ∃ w7, w7 = w6.alloc (.cells #[.int .i64 lo, .slice A5 zn c5] 74) := ⟨_, rfl⟩
       rw [← hw7]
       have d0 : w7.cell? ⟨w6.heap.size, 0, none⟩ = some (.int .i64 lo) := by rw [hw7]; exact World.cell?_alloc_new w6 _ _ 0
       have d1 : w7.cell? ⟨w6.heap.size, 0 + 1, none⟩ = some (.slice A5 zn c5) := by rw [hw7]; exact World.cell?_alloc_new w6 _ _ 1
       have hx7 : Ext w6 w7 := by rw [hw7]; exact (Ext.refl _).alloc_ _
       have HX7 := Lib.hid (HX6.out.trans' hx7)
       have hI7 : IntS (hide M7 w7) ⟨A5, zn, c5⟩ tw := (OwnI.hidden HO5.out (fun b hb => by have := HMS.out b hb; omega)).keep (hide_keep' (Kp.ofExt hx7))
       have hO7 : OwnMp M7 w7 wb.heap.size A7 i c7 (L.take i) := OwnMp.kp HO.out (Kp.ofExt (M := []) HX7.out) (fun _ _ => by simp) (fun _ h => h) (fun _ h => .inl h) (fun _ h => by cases h)
       clear hw7 hx7
       obtain ⟨A8, c8, w8, hrun8, hown8, hgr8, hat8⟩ := append_map hO7 d0 d1 hI7 HAM.out (by have := HBL.out.1; omega) (by have := HX7.out.b.size; omega)
       obtain ⟨M8, hO8, hA8, hM8, hS8⟩ := mp_next hown8 hat8 HAM.out (fun b hb => by have := HMS.out b hb; have := HX7.out.b.size; omega) hgr8.size
       have HX8 : Hid (Ext wb w8) := Lib.hid (ext_of_grown (HBX.out.trans' HX7.out) hgr8 (fun b hb => (HO.out.lt b hb).1))
       clear hown8 hI7 hO7 d0 d1
       refine segWK_cons (by repeat (first | exact OpsAre.nil | exact OpAt.zero | apply OpAt.succ | apply OpsAre.cons)) (by repeat (first | exact OpAt.zero | apply OpAt.succ)) ?_
       refine wpQuiet_nil ?_
       go_wp2_with (at_builtin; refine wpList_run_append rfl _ _ _ rfl _ _ rfl rfl _ _ hrun8 ?_)
       refine segKK_mk (Kp.ofGrown hgr8 (by intro b hb; simp [hb])) ?_
       have HO8 := Lib.hid hO8
       have HA8 := Lib.hid hA8
       have HM8 := Lib.hid hM8
       have HS8 := Lib.hid hS8
       clear hO8 hA8 hM8 hS8 hgr8 hat8 hrun8
       refine segWK_nil (by repeat (first | exact OpsAre.nil | exact OpAt.zero | apply OpAt.succ | apply OpsAre.cons)) ?_
       repeat (go_big_quiet_step (fail))
       refine wpQuiet_nil ?_
       go_wp2_with fail
       go_roundg gi
       case measure => omega
       case rel => exact ⟨i + 1, A8, c8, M8, by omega, by go_num, rfl, Lib.hid (by rw [HTK.out]; exact HO8.out), HA8, Lib.hid (fun b hb => HM8.out b (HMM.out b hb)), HS8, HX8⟩
      ·obtain rfl : i = L.length := by omega
       have HOL : Hid (OwnMp M7 wr wb.heap.size A7 L.length c7 L) := Lib.hid (by have h := HO.out; rwa [List.take_length] at h)
       have HCX := Lib.hid (HC.out.ext_ HBX.out (by omega))
       have hcr := keep_cell (ext_keep HBX.out) hcell
       have hfr2 := HCX.out.fr (fld4 m)
       have HMS2 := Lib.hid (OwnMp.maps HOL.out (M' := M) (fun b hb hm => by have := (HOL.out.lt b hb).1; have := HML.out b hm; omega) HMM.out)
       clear HO HAM HMS hfr hcell hptr
       go_wp2_with fail
       go_roundg gk'
       case measure => omega
       case rel => exact ⟨m + 1, by omega, by go_num, Lib.hid (HCX.out.put2 hM0 (Nat.le_refl _) hlt HL.out HMS2.out), Lib.hid ((HK.out.trans (Kp.ofExt HBX.out)).trans (Kp.setCell _ _ _ _ (by simp)))⟩
    ·obtain rfl : m = 4 := by omega
     have hc10 : wr.cell? ⟨w.heap.size, 10, none⟩ = some (.slice t.s10.a t.s10.n t.s10.c) := HC.out.old 10 (.inl (by omega)) (fun i hi e => by unfold fld4 at e; split at e <;> omega)
     have hf10 := HC.out.fr 10
     have HEX := Lib.hid (HT.out.exc.ext HC.out.ext)
     have HEL : Hid (t.s10.n ≤ 1000) := Lib.hid (by have h1 : t.s10.n = T.exc.length := HT.out.exc.1.1; have h2 := HBR.out.ex; omega)
     go_upto_region 18 with (at_builtin
                             refine wpList_copy_ints rfl _ _ rfl wr.heap.size rfl rfl HEX.out (by have := HEL.out; omega) (Nat.le_refl _) ?_
                             intro A4 c4 w4 hown4 hgr4
                             have hx4 : Ext wr w4 := ext_of_grown (Ext.refl _) hgr4 (by intro k hk; cases hk)
                             have hc4 := keep_cell (ext_keep hx4) hc10
                             have hf4 := (hx4.b.frozen (p := ⟨w.heap.size, 10, none⟩) (by show w.heap.size < wr.heap.size; omega)).trans hf10
                             have HO4 := Lib.hid hown4
                             have HX4 := Lib.hid hx4
                             clear hown4 hgr4 hx4)
     obtain ⟨t', hcs, hts⟩ := (HC.out.ext_ HX4.out (by omega)).fin hM0 (Nat.le_refl _) (OwnI.hidden HO4.out (fun b hb => by have := HML.out b hb; omega)) (HG.out.sub (hide_on (HC.out.ext.trans' HX4.out) HMG.out))
     have hxe : Ext w (w4.setCell ⟨w.heap.size, 10, none⟩ (.slice A4 t.s10.n c4)) := (HC.out.ext.trans' HX4.out).setCell_ (Nat.le_refl _) _
     have hke : Kp [w.heap.size] w2 (w4.setCell ⟨w.heap.size, 10, none⟩ (.slice A4 t.s10.n c4)) := (HC.out.kp.trans (Kp.ofExt HX4.out)).trans (Kp.setCell _ _ _ _ (by simp))
     have hre : (w4.setCell ⟨w.heap.size, 10, none⟩ (.slice A4 t.s10.n c4)).heap[w.heap.size + 1]? = some (.cells nil12 26 (0, 0)) := by rw [hke.block _ (by omega) (by simp)]; exact HR2.out
     obtain ⟨w5, hw5⟩ : ∃ w5, w5 = w4.setCell ⟨w.heap.size, 10, none⟩ (.slice A4 t.s10.n c4) := ⟨_, rfl⟩
     rw [← hw5] at hcs hts hxe hre ⊢
     clear hw5 hke
     have hks := kp_setRow w5 (w.heap.size + 1) t'.v.cells
     have HXF : Hid (Ext w (w5.setRow (w.heap.size + 1) t'.v.cells)) := Lib.hid (hxe.kp hks (fun b hb => by rw [List.mem_singleton] at hb; omega))
     have HTF : Hid (TblS (hide N (w5.setRow (w.heap.size + 1) t'.v.cells)) t' T) := Lib.hid (hts.sub (fun p v hp => hide_less HMN.out (by
      rw [hide_keep' (hks.mono (fun b hb => by rw [List.mem_singleton] at hb; subst hb; exact .inl hM1)) p (World.block_lt_of_cell? _ _ hp)]
      exact hp)))
     have HRG := Lib.hid (tv_range hcs)
     have HR6 := Lib.hid hre
     clear hcs hts hxe hre hks
     refine wp_region_lit ?_
     refine wpList_load_mid rfl _ _ rfl w.heap.size 0 rfl _ _ HRG.out Tryz.underlying26 rfl (by kernel_rfl) ?_
     refine wpList_store_row rfl _ _ _ rfl (w.heap.size + 1) _ rfl rfl 26 nil12 HR6.out (by kernel_rfl) rfl (tv_all t') ?_
     go_wp2_with fail
     refine bodyPost_ret (v := t'.v) (results_cell_row (p := 2) (ty := 26) (by kernel_rfl) _ _ (w.heap.size + 1) 26 _ (0, 0) _ (by first | rfl | simp [Act.put]) (setRow_heap _ _ _ _ _ _ HR6.out) Tryz.underlying26 rfl (by kernel_rfl)) rfl ⟨t', rfl, HXF.out, HTF.out⟩
def newE (T : Tbl) (most : Int) : Int := if wfB T = false then 2 else if most < 1 ∨ 32 < most then 3 else 0
theorem new_str {N : List Nat} {w w2 : World} {t' : TV} {T : Tbl} {most : Int} {ty : TypeId} (hx : Ext w w2) (h : TblS (hide N w2) t' T) :
  ∃ t'' g, some (⟨w2.heap.size, 0, none⟩ : Addr) = some ⟨g, 0, none⟩ ∧ w.heap.size ≤ g ∧ TblS (hide (g :: N) (w2.alloc (.cells #[.slice t'.s0.a t'.s0.n t'.s0.c, .slice t'.s1.a t'.s1.n t'.s1.c, .slice t'.s2.a t'.s2.n t'.s2.c, .slice t'.s3.a t'.s3.n t'.s3.c, .slice t'.s4.a t'.s4.n t'.s4.c, .slice t'.s5.a t'.s5.n t'.s5.c, .slice t'.s6.a t'.s6.n t'.s6.c, .slice t'.s7.a t'.s7.n t'.s7.c, .slice t'.s8.a t'.s8.n t'.s8.c, .slice t'.s9.a t'.s9.n t'.s9.c, .slice t'.s10.a t'.s10.n t'.s10.c, .slice t'.s11.a t'.s11.n t'.s11.c, .int .i64 most, .slice none 0 0] ty))) t'' T ∧ StrS [g] (w2.alloc (.cells #[.slice t'.s0.a t'.s0.n t'.s0.c, .slice t'.s1.a t'.s1.n t'.s1.c, .slice t'.s2.a t'.s2.n t'.s2.c, .slice t'.s3.a t'.s3.n t'.s3.c, .slice t'.s4.a t'.s4.n t'.s4.c, .slice t'.s5.a t'.s5.n t'.s5.c, .slice t'.s6.a t'.s6.n t'.s6.c, .slice t'.s7.a t'.s7.n t'.s7.c, .slice t'.s8.a t'.s8.n t'.s8.c, .slice t'.s9.a t'.s9.n t'.s9.c, .slice t'.s10.a t'.s10.n t'.s10.c, .slice t'.s11.a t'.s11.n t'.s11.c, .int .i64 most, .slice none 0 0] ty)) (w2.alloc (.cells #[.slice t'.s0.a t'.s0.n t'.s0.c, .slice t'.s1.a t'.s1.n t'.s1.c, .slice t'.s2.a t'.s2.n t'.s2.c, .slice t'.s3.a t'.s3.n t'.s3.c, .slice t'.s4.a t'.s4.n t'.s4.c, .slice t'.s5.a t'.s5.n t'.s5.c, .slice t'.s6.a t'.s6.n t'.s6.c, .slice t'.s7.a t'.s7.n t'.s7.c, .slice t'.s8.a t'.s8.n t'.s8.c, .slice t'.s9.a t'.s9.n t'.s9.c, .slice t'.s10.a t'.s10.n t'.s10.c, .slice t'.s11.a t'.s11.n t'.s11.c, .int .i64 most, .slice none 0 0] ty)) g t'' T most none 0 0 [] := by
 have hx2 : Ext w2 (w2.alloc (.cells #[.slice t'.s0.a t'.s0.n t'.s0.c, .slice t'.s1.a t'.s1.n t'.s1.c, .slice t'.s2.a t'.s2.n t'.s2.c, .slice t'.s3.a t'.s3.n t'.s3.c, .slice t'.s4.a t'.s4.n t'.s4.c, .slice t'.s5.a t'.s5.n t'.s5.c, .slice t'.s6.a t'.s6.n t'.s6.c, .slice t'.s7.a t'.s7.n t'.s7.c, .slice t'.s8.a t'.s8.n t'.s8.c, .slice t'.s9.a t'.s9.n t'.s9.c, .slice t'.s10.a t'.s10.n t'.s10.c, .slice t'.s11.a t'.s11.n t'.s11.c, .int .i64 most, .slice none 0 0] ty)) := (Ext.refl _).alloc_ _
 have h1 : TblS (hide (w2.heap.size :: N) (w2.alloc (.cells #[.slice t'.s0.a t'.s0.n t'.s0.c, .slice t'.s1.a t'.s1.n t'.s1.c, .slice t'.s2.a t'.s2.n t'.s2.c, .slice t'.s3.a t'.s3.n t'.s3.c, .slice t'.s4.a t'.s4.n t'.s4.c, .slice t'.s5.a t'.s5.n t'.s5.c, .slice t'.s6.a t'.s6.n t'.s6.c, .slice t'.s7.a t'.s7.n t'.s7.c, .slice t'.s8.a t'.s8.n t'.s8.c, .slice t'.s9.a t'.s9.n t'.s9.c, .slice t'.s10.a t'.s10.n t'.s10.c, .slice t'.s11.a t'.s11.n t'.s11.c, .int .i64 most, .slice none 0 0] ty))) t' T := h.sub (hide_on hx2 (fun b hb => by
  rcases List.mem_cons.1 hb with rfl | hb
  ·exact .inr (Nat.le_refl _)
  ·exact .inl hb))
 exact ⟨t', w2.heap.size, rfl, hx.b.size, h1, ⟨h1.sub (fun p v hp => hide_less (fun b hb => by rw [List.mem_singleton] at hb; simp [hb]) hp), Kp.refl _ _, by simp, by simp, World.cell?_alloc_new w2 _ ty, World.frozen?_alloc_at _ _ _ _ rfl⟩, Own.nil_ _ _ _ _⟩
set_option maxHeartbeats 3200000 in
set_option maxRecDepth 100000 in
theorem new_spec (N : List Nat) (t : TV) (T : Tbl) (most : Int) (w : World) (ht : TblS w t T) (hN : ∀ b ∈ N, b < w.heap.size) (hg : Glob (hide N w)) :
  Calls Tryz.prog 22 #[t.v, .int .i64 most] w fun e w' => ∃ p, e = .returned (.tuple #[.pointer p, .int .i64 (newE T most)]) ∧ Ext w w' ∧ (newE T most ≠ 0 → p = none) ∧
   (newE T most = 0 → ∃ t' g, p = some ⟨g, 0, none⟩ ∧ w.heap.size ≤ g ∧ TblS (hide (g :: N) w') t' T ∧ StrS [g] w' w' g t' T most none 0 0 []) := by
 have hba := tw_ext w t
 have HT := Lib.hid (ht.ext_ hba)
 have HC := Lib.hid (check_spec t T _ HT.out)
 have HN := Lib.hid hN
 have HG := Lib.hid hg
 clear ht hN hg
 cases hw : wfB T
 ·have HV : Hid (newE T most = 2) := Lib.hid (by rw [newE, if_pos hw])
  have hv := chk_ne hw
  clear hw
  go_enter Tryz.func22, Tryz.ntmps22
  go_wp2_with fail
  refine HC.out.mono ?_
  rintro e w1 ⟨rfl, hb1⟩
  have hb := hba.trans' hb1
  clear hb1
  go_wp2_with fail
  go_ret2
  exact ⟨none, by rw [HV.out]; rfl, hb, fun _ => rfl, fun h => by rw [HV.out] at h; cases h⟩
 ·have HBR := Lib.hid (brief_of hw)
  have h0 := (checkNo_zero T).2 hw
  rw [h0] at HC
  by_cases h1 : most < 1
  ·have HV : Hid (newE T most = 3) := Lib.hid (by rw [newE, if_neg (by rw [hw]; simp), if_pos (.inl h1)])
   have d1 : decide (most < 1) = true := decide_eq_true h1
   clear hw h0
   go_enter Tryz.func22, Tryz.ntmps22
   go_wp2_with (go_at_call 63; refine HC.out.mono ?_; rintro e w1 ⟨rfl, hb1⟩; have hb := hba.trans' hb1; clear hb1)
   go_ret2
   exact ⟨none, by rw [HV.out]; rfl, hb, fun _ => rfl, fun h => by rw [HV.out] at h; cases h⟩
  by_cases h2 : 32 < most
  ·have HV : Hid (newE T most = 3) := Lib.hid (by rw [newE, if_neg (by rw [hw]; simp), if_pos (.inr h2)])
   have d1 : decide (most < 1) = false := decide_eq_false h1
   have d2 : decide (32 < most) = true := decide_eq_true h2
   clear hw h0
   go_enter Tryz.func22, Tryz.ntmps22
   go_wp2_with (go_at_call 63; refine HC.out.mono ?_; rintro e w1 ⟨rfl, hb1⟩; have hb := hba.trans' hb1; clear hb1)
   go_ret2
   exact ⟨none, by rw [HV.out]; rfl, hb, fun _ => rfl, fun h => by rw [HV.out] at h; cases h⟩
  ·have HV : Hid (newE T most = 0) := Lib.hid (by rw [newE, if_neg (by rw [hw]; simp), if_neg (by omega)])
   have d1 : decide (most < 1) = false := decide_eq_false h1
   have d2 : decide (32 < most) = false := decide_eq_false h2
   clear hw h0
   go_enter Tryz.func22, Tryz.ntmps22
   go_wp2_with (first
    | (go_at_call 63; refine HC.out.mono ?_; rintro e w1 ⟨rfl, hb1⟩; have HB1 := Lib.hid hb1; have rT : ∀ k : Nat, w1.cell? ⟨w.heap.size, k, none⟩ = t.v.cells[k]? := box_at hb1; clear hb1)
    | (go_at_call 64; refine (copy_spec N t T _ (HT.out.ext_ HB1.out) HBR.out (fun b hb => Nat.lt_of_lt_of_le (HN.out b hb) (hba.trans' HB1.out).b.size) (HG.out.sub (hide_on (hba.trans' HB1.out) (fun b hb => .inl hb)))).mono ?_; rintro e w2 ⟨t', rfl, hb2, ht2⟩; have HB2 := Lib.hid ((hba.trans' HB1.out).trans' hb2); have HT2 := Lib.hid ht2; clear hb2 ht2))
   go_ret2
   exact ⟨_, by rw [HV.out]; rfl, HB2.out.alloc_ _, fun h => absurd HV.out h, fun _ => new_str HB2.out HT2.out⟩
set_option maxHeartbeats 3200000 in
set_option maxRecDepth 100000 in
theorem rnew_spec (N : List Nat) (t : TV) (T : Tbl) (most : Int) (w : World) (ht : TblS w t T) (hN : TblS (hide N w) t T) :
  Calls Tryz.prog 23 #[t.v, .int .i64 most] w fun e w' => ∃ p, e = .returned (.tuple #[.pointer p, .int .i64 (newE T most)]) ∧ Ext w w' ∧ (newE T most ≠ 0 → p = none) ∧
   (newE T most = 0 → ∃ t' g, p = some ⟨g, 0, none⟩ ∧ w.heap.size ≤ g ∧ TblS (hide (g :: N) w') t' T ∧ StrS [g] w' w' g t' T most none 0 0 []) := by
 have hba := tw_ext w t
 have HT := Lib.hid (ht.ext_ hba)
 have HC := Lib.hid (rcheck_spec t T _ HT.out)
 have HN := Lib.hid hN
 clear ht hN
 cases hw : wfB T
 ·have HV : Hid (newE T most = 2) := Lib.hid (by rw [newE, if_pos hw])
  have hv := chk_ne hw
  clear hw
  go_enter Tryz.func23, Tryz.ntmps23
  go_wp2_with fail
  refine HC.out.mono ?_
  rintro e w1 ⟨rfl, hb1⟩
  have hb := hba.trans' hb1
  clear hb1
  go_wp2_with fail
  go_ret2
  exact ⟨none, by rw [HV.out]; rfl, hb, fun _ => rfl, fun h => by rw [HV.out] at h; cases h⟩
 ·have HBR := Lib.hid (brief_of hw)
  have h0 := (checkNo_zero T).2 hw
  rw [h0] at HC
  by_cases h1 : most < 1
  ·have HV : Hid (newE T most = 3) := Lib.hid (by rw [newE, if_neg (by rw [hw]; simp), if_pos (.inl h1)])
   have d1 : decide (most < 1) = true := decide_eq_true h1
   clear hw h0
   go_enter Tryz.func23, Tryz.ntmps23
   go_wp2_with (go_at_call 54; refine HC.out.mono ?_; rintro e w1 ⟨rfl, hb1⟩; have hb := hba.trans' hb1; clear hb1)
   go_ret2
   exact ⟨none, by rw [HV.out]; rfl, hb, fun _ => rfl, fun h => by rw [HV.out] at h; cases h⟩
  by_cases h2 : 32 < most
  ·have HV : Hid (newE T most = 3) := Lib.hid (by rw [newE, if_neg (by rw [hw]; simp), if_pos (.inr h2)])
   have d1 : decide (most < 1) = false := decide_eq_false h1
   have d2 : decide (32 < most) = true := decide_eq_true h2
   clear hw h0
   go_enter Tryz.func23, Tryz.ntmps23
   go_wp2_with (go_at_call 54; refine HC.out.mono ?_; rintro e w1 ⟨rfl, hb1⟩; have hb := hba.trans' hb1; clear hb1)
   go_ret2
   exact ⟨none, by rw [HV.out]; rfl, hb, fun _ => rfl, fun h => by rw [HV.out] at h; cases h⟩
  ·have HV : Hid (newE T most = 0) := Lib.hid (by rw [newE, if_neg (by rw [hw]; simp), if_neg (by omega)])
   have d1 : decide (most < 1) = false := decide_eq_false h1
   have d2 : decide (32 < most) = false := decide_eq_false h2
   clear hw h0
   go_enter Tryz.func23, Tryz.ntmps23
   go_wp2_with (first
    | (go_at_call 54; refine HC.out.mono ?_; rintro e w1 ⟨rfl, hb1⟩; have HB1 := Lib.hid hb1; have rT : ∀ k : Nat, w1.cell? ⟨w.heap.size, k, none⟩ = t.v.cells[k]? := box_at hb1; clear hb1))
   go_ret2
   have HB2 := Lib.hid (hba.trans' HB1.out)
   exact ⟨_, by rw [HV.out]; rfl, HB2.out.alloc_ _, fun h => absurd HV.out h, fun _ => new_str (N := N) HB2.out (HN.out.sub (hide_on HB2.out (fun b hb => .inl hb)))⟩
end Go.Proofs.YtbdabjhankgcmaaGreatDoor
