/- Walk: keep.prototypes. -/
import Derived.Test.YtmgckljgkdahfaaGreatDoorKd
import Derived.Test.YtmgckljgkdahfaaGreatDoorR
import Derived.Deep.LoopGhost
import Derived.Deep.CutRange
import Derived.Deep.RegionHeld3
import Derived.Deep.RegionLaw
import Derived.Deep.DrawnRows
namespace Go.Proofs.YtmgckljgkdahfaaGreatDoor
open Go.RowKit
attribute [local go_sem ↓] Go.wp_at_zero Go.wp_at_succ

theorem rign_spec (t : TV) (L : List Sp) (c : Int) (w : World) (h : SpanS w t.s6 L) :
    Calls Tryz.prog 67 #[t.v, .int .i64 c] w fun e w' => e = .returned (.bool (spFind L c == 1)) ∧ Ext w w' := by
  have hx := h.ext ((Ext.refl w).alloc_ (.cells t.v.cells 26))
  go_enter Tryz.func67, Tryz.ntmps67
  go_wp2_with (go_at_call 93; refine (rvalue_spec _ _ _ L _ _ hx).mono ?_; rintro e w1 ⟨rfl, hb⟩)
  go_ret
  exact ⟨rfl, ((Ext.refl w).alloc_ _).trans' hb⟩

/-! The state of prototypes. -/
structure PSt (we w0 w : World) (g tb bs q : Nat) (M : List Nat) (A : Option Addr) (n c : Nat) (ign : List Sp) (P : List Mp) (r : List Int) : Prop where
  src : Src w0 w g r
  ext : Ext w0 w
  kp : Kp [g, tb] we w
  oth : ∀ k, k ≠ 11 → w.cell? ⟨tb, k, none⟩ = we.cell? ⟨tb, k, none⟩
  frz : ∀ k, w.frozen? ⟨tb, k, none⟩ = false
  v11 : w.cell? ⟨tb, 11, none⟩ = some (.slice A n c)
  o11 : OwnMp M w bs A n c P
  col : ColAt M w tb 6 ign
  lst : MapS (hide M w) ⟨some ⟨q, 0, none⟩, 5, 5⟩ protosL
  hg : g ∈ M
  ht : tb ∈ M
  h11 : ∀ b, blkOf A = some b → b ∈ M
  hM : ∀ b ∈ M, b < w.heap.size

section
variable {we w0 w w' : World} {g tb bs q n c : Nat} {M : List Nat} {A : Option Addr} {P : List Mp} {ign : List Sp} {r r' : List Int}
theorem PSt.next (h : PSt we w0 w g tb bs q M A n c ign P r) (hk : Kp [g] w w') (hs : Src w0 w' g r') (hb : Ext w0 w') (hgt : g < tb) (htb : tb < bs) : PSt we w0 w' g tb bs q M A n c ign P r' := by
  have htl := h.hM tb h.ht
  have htN : tb ∉ [g] := by simp; omega
  have hNM : ∀ b ∈ [g], b ∈ M ∨ w.heap.size ≤ b := by intro b hb; simp at hb; subst hb; exact .inl h.hg
  exact ⟨hs, hb, h.kp.via hk (fun b hb => .inl (by simp at hb; simp [hb])), fun k k1 => (hk.cell ⟨tb, k, none⟩ htl htN).trans (h.oth k k1), fun k => (hk.frozen ⟨tb, k, none⟩ htl htN).trans (h.frz k), (hk.cell ⟨tb, 11, none⟩ htl htN).trans h.v11,
    h.o11.kp hk (fun b hb => by have := (h.o11.lt b hb).1; simp; omega) (fun _ h => h) (fun _ h => .inl h) hNM, h.col.kp hk hNM htN, h.lst.keep (hide_keep' (hk.mono hNM)), h.hg, h.ht, h.h11, fun b hb => Nat.lt_of_lt_of_le (h.hM b hb) hk.size⟩
theorem PSt.ext_ (h : PSt we w0 w g tb bs q M A n c ign P r) (hx : Ext w w') (hgt : g < tb) (htb : tb < bs) : PSt we w0 w' g tb bs q M A n c ign P r :=
  h.next (Kp.ofExt hx) (h.src.kp (M := []) (Kp.ofExt hx) (by simp)) (h.ext.trans' hx) hgt htb
theorem PSt.tcell (h : PSt we w0 w g tb bs q M A n c ign P r) (hgr : w.grownBy w' (blkOf A)) (htb : tb < bs) (k : Nat) : w'.cell? ⟨tb, k, none⟩ = w.cell? ⟨tb, k, none⟩ ∧ w'.frozen? ⟨tb, k, none⟩ = false := by
  have hk : Kp (blkOf A).toList w w' := Kp.ofGrown hgr (by intro b hb; simp [hb])
  have hn : tb ∉ (blkOf A).toList := by
    simp only [Option.mem_toList]
    intro e
    have := (h.o11.lt tb e).1; omega
  exact ⟨hk.cell ⟨tb, k, none⟩ (h.hM tb h.ht) hn, (hk.frozen ⟨tb, k, none⟩ (h.hM tb h.ht) hn).trans (h.frz k)⟩
/-- t.Prototypes = append(t.Prototypes, m). -/
theorem PSt.push11 (h : PSt we w0 w g tb bs q M A n c ign P r) {A' : Option Addr} {n' c' : Nat} {P' : List Mp} (hown : OwnMp (w.heap.size :: M) w' bs A' n' c' P') (hgr : w.grownBy w' (blkOf A)) (hat : blkOf A' = blkOf A ∨ blkOf A' = some w.heap.size) (hgt : g < tb) (htb : tb < bs) (hwe : we.heap.size ≤ bs) (hw0 : w0.heap.size ≤ tb) :
    ∃ M', PSt we w0 (w'.setCell ⟨tb, 11, none⟩ (.slice A' n' c')) g tb bs q M' A' n' c' ign P' r := by
  have htl := h.hM tb h.ht
  have hk : Kp (blkOf A).toList w w' := Kp.ofGrown hgr (by intro b hb; simp [hb])
  have hlt := h.o11.lt
  have hmA : ∀ b, b ∈ (blkOf A).toList ↔ blkOf A = some b := by intro b; simp
  have hgA : g ∉ (blkOf A).toList := by rw [hmA]; intro hb; have := (hlt _ hb).1; omega
  have hc : ∀ k, w'.cell? ⟨tb, k, none⟩ = w.cell? ⟨tb, k, none⟩ := fun k => (h.tcell hgr htb k).1
  have hf : ∀ k, w'.frozen? ⟨tb, k, none⟩ = false := fun k => (h.tcell hgr htb k).2
  have hx : Ext w0 w' := ext_of_grown h.ext hgr (fun k hk => by have := (hlt k hk).1; omega)
  have hks : Kp [tb] w' (w'.setCell ⟨tb, 11, none⟩ (.slice A' n' c')) := Kp.setCell _ _ _ _ (by simp)
  have hk2 : Kp (tb :: (blkOf A).toList) w (w'.setCell ⟨tb, 11, none⟩ (.slice A' n' c')) := (hk.mono (fun b hb => .inl (by simp only [List.mem_cons]; exact .inr hb))).trans (hks.mono (fun b hb => .inl (by simp at hb; simp [hb])))
  obtain ⟨M', m1, m2, m3, m4, m6⟩ : ∃ M' : List Nat, (∀ b ∈ M, b ∈ M') ∧ (∀ b ∈ M', b ∈ M ∨ w.heap.size ≤ b) ∧ (∀ b, blkOf A' = some b → b ∈ M') ∧ (∀ b ∈ M', b < w'.heap.size) ∧ (∀ b ∈ M', b ∈ w.heap.size :: M) := by
    rcases hat with hat | hat
    · exact ⟨M, fun _ h => h, fun _ h => .inl h, fun b hb => h.h11 b (by rw [← hat]; exact hb), fun b hb => Nat.lt_of_lt_of_le (h.hM b hb) hk.size, fun b hb => by simp [hb]⟩
    · refine ⟨w.heap.size :: M, fun b hb => by simp [hb], fun b hb => ?_, fun b hb => ?_, fun b hb => ?_, fun _ h => h⟩
      · simp at hb; rcases hb with rfl | hb
        · exact .inr (Nat.le_refl _)
        · exact .inl hb
      · rw [hat] at hb; injection hb with hb; simp [hb]
      · simp at hb; rcases hb with rfl | hb
        · exact (hown.lt _ hat).2
        · exact Nat.lt_of_lt_of_le (h.hM b hb) hk.size
  obtain ⟨A5, n5, c5, k1, k2, k3⟩ := h.col
  have hkM : ∀ b ∈ tb :: (blkOf A).toList, b ∈ M ∨ w.heap.size ≤ b := by
    intro b hb
    rw [List.mem_cons] at hb
    rcases hb with rfl | hb
    · exact .inl h.ht
    · exact .inl (h.h11 b ((hmA b).1 hb))
  refine ⟨M', ⟨h.src.kp hk2 (by simp only [List.mem_cons, not_or]; exact ⟨by omega, hgA⟩), hx.setCell_ hw0 _, h.kp.via hk2 (fun b hb => ?_), fun k k1 => ?_, fun k => ?_, ?_, ?_, ?_, h.lst.keep (hide_keep (hk2.mono hkM) m1 m2), m1 g h.hg, m1 tb h.ht, m3, fun b hb => by simpa using m4 b hb⟩⟩
  · rw [List.mem_cons] at hb
    rcases hb with rfl | hb
    · exact .inl (by simp)
    · exact .inr (Nat.le_trans hwe (hlt b ((hmA b).1 hb)).1)
  · rw [World.cell?_setCell_other _ _ _ _ (by intro e; injection e with _ e; exact k1 e.symm), hc k]
    exact h.oth k k1
  · rw [World.frozen?_setCell]
    exact hf k
  · exact World.cell?_setCell_same _ _ _ ((hc 11).trans h.v11)
  · refine (hown.less m6).kp hks (fun b hb hm => ?_) (fun _ h => h) (fun _ h => .inl h) (fun b hb => ?_)
    · simp at hm
      have := (hown.lt b hb).1
      omega
    · simp at hb; subst hb; exact .inl (m1 b h.ht)
  · refine ⟨A5, n5, c5, ?_, k2.keep (hide_keep (hk2.mono hkM) m1 m2), by rw [World.frozen?_setCell]; exact hf 6⟩
    rw [World.cell?_setCell_other _ _ _ _ (by intro e; injection e with _ e; cases e), hc 6]
    exact k1
end

/-- The literal row of prototypes. -/
def protoW (w : World) : World :=
  (((((w.alloc (.cells #[.int .i64 111] 3)).alloc (.cells #[.int .i64 114, .int .i64 110] 3)).alloc (.cells #[.int .i64 97] 3)).alloc (.cells #[.int .i64 97] 3)).alloc (.cells #[.int .i64 111, .int .i64 803] 3)).alloc
    (.cells #[.int .i64 48, .slice (some ⟨w.heap.size, 0, none⟩) 1 1, .int .i64 109, .slice (some ⟨w.heap.size + 1, 0, none⟩) 2 2, .int .i64 945, .slice (some ⟨w.heap.size + 2, 0, none⟩) 1 1, .int .i64 1072, .slice (some ⟨w.heap.size + 3, 0, none⟩) 1 1, .int .i64 1632, .slice (some ⟨w.heap.size + 4, 0, none⟩) 2 2] 61)
theorem ints_at {w : World} {H : Nat} (hH : w.heap.size = H) (l : List Int) (t : TypeId) (h : l.length ≤ maxLen) : IntS (w.alloc (.cells (l.map (Value.int .i64)).toArray t)) ⟨some ⟨H, 0, none⟩, l.length, l.length⟩ l := by
  subst hH
  exact ints_new w l t h
theorem proto_lit (w : World) (M : List Nat) (hM : ∀ b ∈ M, b < w.heap.size) : MapS (hide M (protoW w)) ⟨some ⟨w.heap.size + 5, 0, none⟩, 5, 5⟩ protosL ∧ Ext w (protoW w) ∧ (protoW w).heap.size = w.heap.size + 6 := by
  obtain ⟨w1, hw1⟩ : ∃ w1, w1 = w.alloc (.cells #[.int .i64 111] 3) := ⟨_, rfl⟩
  obtain ⟨w2, hw2⟩ : ∃ w2, w2 = w1.alloc (.cells #[.int .i64 114, .int .i64 110] 3) := ⟨_, rfl⟩
  obtain ⟨w3, hw3⟩ : ∃ w3, w3 = w2.alloc (.cells #[.int .i64 97] 3) := ⟨_, rfl⟩
  obtain ⟨w4, hw4⟩ : ∃ w4, w4 = w3.alloc (.cells #[.int .i64 97] 3) := ⟨_, rfl⟩
  obtain ⟨w5, hw5⟩ : ∃ w5, w5 = w4.alloc (.cells #[.int .i64 111, .int .i64 803] 3) := ⟨_, rfl⟩
  have z1 : w1.heap.size = w.heap.size + 1 := by rw [hw1]; simp
  have z2 : w2.heap.size = w.heap.size + 2 := by rw [hw2]; simp [z1]
  have z3 : w3.heap.size = w.heap.size + 3 := by rw [hw3]; simp [z2]
  have z4 : w4.heap.size = w.heap.size + 4 := by rw [hw4]; simp [z3]
  have z5 : w5.heap.size = w.heap.size + 5 := by rw [hw5]; simp [z4]
  have e1 : Ext w w1 := by rw [hw1]; exact (Ext.refl _).alloc_ _
  have e2 : Ext w1 w2 := by rw [hw2]; exact (Ext.refl _).alloc_ _
  have e3 : Ext w2 w3 := by rw [hw3]; exact (Ext.refl _).alloc_ _
  have e4 : Ext w3 w4 := by rw [hw4]; exact (Ext.refl _).alloc_ _
  have e5 : Ext w4 w5 := by rw [hw5]; exact (Ext.refl _).alloc_ _
  obtain ⟨w6, hw6⟩ : ∃ w6, w6 = protoW w := ⟨_, rfl⟩
  have h6 : w6 = w5.alloc (.cells #[.int .i64 48, .slice (some ⟨w.heap.size, 0, none⟩) 1 1, .int .i64 109, .slice (some ⟨w.heap.size + 1, 0, none⟩) 2 2, .int .i64 945, .slice (some ⟨w.heap.size + 2, 0, none⟩) 1 1, .int .i64 1072, .slice (some ⟨w.heap.size + 3, 0, none⟩) 1 1, .int .i64 1632, .slice (some ⟨w.heap.size + 4, 0, none⟩) 2 2] 61) := by
    rw [hw6, hw5, hw4, hw3, hw2, hw1]; rfl
  have e6 : Ext w5 w6 := by rw [h6]; exact (Ext.refl _).alloc_ _
  have i1 : IntS w1 ⟨some ⟨w.heap.size, 0, none⟩, 1, 1⟩ [111] := by rw [hw1]; exact ints_at rfl [111] _ (by simp [maxLen])
  have i2 : IntS w2 ⟨some ⟨w.heap.size + 1, 0, none⟩, 2, 2⟩ [114, 110] := by rw [hw2]; exact ints_at z1 [114, 110] _ (by simp [maxLen])
  have i3 : IntS w3 ⟨some ⟨w.heap.size + 2, 0, none⟩, 1, 1⟩ [97] := by rw [hw3]; exact ints_at z2 [97] _ (by simp [maxLen])
  have i4 : IntS w4 ⟨some ⟨w.heap.size + 3, 0, none⟩, 1, 1⟩ [97] := by rw [hw4]; exact ints_at z3 [97] _ (by simp [maxLen])
  have i5 : IntS w5 ⟨some ⟨w.heap.size + 4, 0, none⟩, 2, 2⟩ [111, 803] := by rw [hw5]; exact ints_at z4 [111, 803] _ (by simp [maxLen])
  have j1 := i1.ext (e2.trans' (e3.trans' (e4.trans' (e5.trans' e6))))
  have j2 := i2.ext (e3.trans' (e4.trans' (e5.trans' e6)))
  have j3 := i3.ext (e4.trans' (e5.trans' e6))
  have j4 := i4.ext (e5.trans' e6)
  have j5 := i5.ext e6
  have hno : ∀ k, w.heap.size + k ∉ M := fun k hm => by have := hM _ hm; omega
  have hcell : ∀ j, (hide M w6).cell? ⟨w.heap.size + 5, j, none⟩ = (#[.int .i64 48, .slice (some ⟨w.heap.size, 0, none⟩) 1 1, .int .i64 109, .slice (some ⟨w.heap.size + 1, 0, none⟩) 2 2, .int .i64 945, .slice (some ⟨w.heap.size + 2, 0, none⟩) 1 1, .int .i64 1072, .slice (some ⟨w.heap.size + 3, 0, none⟩) 1 1, .int .i64 1632, .slice (some ⟨w.heap.size + 4, 0, none⟩) 2 2] : Array Value)[j]? := by
    intro j
    rw [hide_cell, if_neg (hno 5), h6, ← z5]
    exact World.cell?_alloc_new _ _ _ j
  rw [← hw6]
  refine ⟨⟨⟨rfl, Nat.le_refl _, by simp [maxLen]⟩, fun i x hx => ?_⟩, e1.trans' (e2.trans' (e3.trans' (e4.trans' (e5.trans' e6)))), by rw [h6]; simp [z5]⟩
  match i, hx with
  | 0, hx => simp [protosL] at hx; subst hx; exact ⟨_, 0, _, _, _, rfl, hcell 0, hcell 1, j1.hide_ (hno 0)⟩
  | 1, hx => simp [protosL] at hx; subst hx; exact ⟨_, 0, _, _, _, rfl, hcell 2, hcell 3, j2.hide_ (hno 1)⟩
  | 2, hx => simp [protosL] at hx; subst hx; exact ⟨_, 0, _, _, _, rfl, hcell 4, hcell 5, j3.hide_ (hno 2)⟩
  | 3, hx => simp [protosL] at hx; subst hx; exact ⟨_, 0, _, _, _, rfl, hcell 6, hcell 7, j4.hide_ (hno 3)⟩
  | 4, hx => simp [protosL] at hx; subst hx; exact ⟨_, 0, _, _, _, rfl, hcell 8, hcell 9, j5.hide_ (hno 4)⟩
  | i + 5, hx => simp [protosL] at hx
end Go.Proofs.YtmgckljgkdahfaaGreatDoor
