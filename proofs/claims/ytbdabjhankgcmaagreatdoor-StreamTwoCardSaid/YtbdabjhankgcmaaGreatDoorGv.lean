/- Rows of spans of the call's own; keep.add. keep.Tables: the state of its loop, in plain words; how it is kept. -/
import Derived.Test.YtbdabjhankgcmaaGreatDoorGh
import Derived.Deep.RegionHeld3
import Derived.Deep.RegionLaw
import Derived.Deep.DrawnRows
import Derived.Deep.AppendLies
namespace Go.Proofs.YtbdabjhankgcmaaGreatDoor
open Go.RowKit
attribute [local go_sem ↓] Go.wp_at_zero Go.wp_at_succ
def spCells : List Sp → List Value
 | [] => []
 | s :: r => .int .i64 s.lo :: .int .i64 s.hi :: .int .i64 s.val :: spCells r
theorem spCells_len : ∀ l, (spCells l).length = l.length * 3
 | [] => rfl
 | s :: r => by simp only [spCells, List.length_cons, spCells_len r]; omega
theorem spCells_app : ∀ l m, spCells (l ++ m) = spCells l ++ spCells m
 | [], m => rfl
 | s :: r, m => by simp [spCells, spCells_app r m]
theorem spCells_get : ∀ (l : List Sp) (i : Nat) (x : Sp), l[i]? = some x → (spCells l)[i * 3]? = some (.int .i64 x.lo) ∧ (spCells l)[i * 3 + 1]? = some (.int .i64 x.hi) ∧ (spCells l)[i * 3 + 2]? = some (.int .i64 x.val)
 | [], i, x, h => by simp at h
 | s :: r, 0, x, h => by simp at h; subst h; simp [spCells]
 | s :: r, i + 1, x, h => by
  simp only [List.getElem?_cons_succ] at h
  have := spCells_get r i x h
  rw [show (i + 1) * 3 = i * 3 + 3 from by omega]
  exact this
theorem spCells_inv : ∀ (l : List Sp) (j : Nat) (u : Value), (spCells l)[j]? = some u → ∃ i x, l[i]? = some x ∧ (j = i * 3 ∧ u = .int .i64 x.lo ∨ j = i * 3 + 1 ∧ u = .int .i64 x.hi ∨ j = i * 3 + 2 ∧ u = .int .i64 x.val)
 | [], j, u, h => by simp [spCells] at h
 | s :: r, 0, u, h => ⟨0, s, rfl, .inl ⟨rfl, by simp [spCells] at h; exact h.symm⟩⟩
 | s :: r, 1, u, h => ⟨0, s, rfl, .inr (.inl ⟨rfl, by simp [spCells] at h; exact h.symm⟩)⟩
 | s :: r, 2, u, h => ⟨0, s, rfl, .inr (.inr ⟨rfl, by simp [spCells] at h; exact h.symm⟩)⟩
 | s :: r, j + 3, u, h => by
  obtain ⟨i, x, hx, h'⟩ := spCells_inv r j u h
  refine ⟨i + 1, x, hx, ?_⟩
  rcases h' with ⟨h1, h2⟩ | ⟨h1, h2⟩ | ⟨h1, h2⟩
  ·exact .inl ⟨by omega, h2⟩
  ·exact .inr (.inl ⟨by omega, h2⟩)
  ·exact .inr (.inr ⟨by omega, h2⟩)
theorem infoSpan : (Tryz.prog.info? 54).map (fun i => (i.zero, i.size, i.bytes)) = some (some (.agg #[.int .i64 0, .int .i64 0, .int .i64 0]), 3, 24) := by kernel_rfl
abbrev OwnSp (w : World) (base : Nat) (A : Option Addr) (n c : Nat) (l : List Sp) : Prop := Own w base 54 3 A n c (spCells l)
theorem OwnSp.spans {w : World} {base n c : Nat} {A : Option Addr} {l : List Sp} (h : OwnSp w base A n c l) : SpanS w ⟨A, n, c⟩ l := by
 have hl := h.len
 rw [spCells_len] at hl
 obtain ⟨h1, h2⟩ := h.le
 refine ⟨⟨by show n = _; omega, by show l.length ≤ c; omega, h2⟩, fun i x hx => ?_⟩
 obtain ⟨g0, g1, g2⟩ := spCells_get l i x hx
 obtain ⟨b, rfl, hc⟩ := h.cells_ _ _ g0
 obtain ⟨b1, hb1, hc1⟩ := h.cells_ _ _ g1
 obtain ⟨b2, hb2, hc2⟩ := h.cells_ _ _ g2
 injection hb1 with hb1; injection hb1 with hb1; subst hb1
 injection hb2 with hb2; injection hb2 with hb2; subst hb2
 exact ⟨b, 0, rfl, by rw [Nat.zero_add]; exact hc, by rw [Nat.zero_add]; exact hc1, by rw [Nat.zero_add]; exact hc2⟩
theorem SpanS.cells_ {w : World} {A : Option Addr} {n c : Nat} {l : List Sp} (h : SpanS w ⟨A, n, c⟩ l) : ∀ j u, (spCells l)[j]? = some u → ∃ b o, A = some ⟨b, o, none⟩ ∧ w.cell? ⟨b, o + j, none⟩ = some u := by
 intro j u hu
 obtain ⟨i, x, hx, h'⟩ := spCells_inv l j u hu
 obtain ⟨b, o, ha, h0, h1, h2⟩ := h.2 i x hx
 refine ⟨b, o, ha, ?_⟩
 rcases h' with ⟨rfl, rfl⟩ | ⟨rfl, rfl⟩ | ⟨rfl, rfl⟩
 ·exact h0
 ·exact h1
 ·exact h2
theorem spCells_one {l : List Sp} : ∀ u ∈ spCells l, u.oneCell' = true := by
 induction l with
 | nil => intro u hu; cases hu
 | cons s r ih =>
  intro u hu
  simp only [spCells, List.mem_cons] at hu
  rcases hu with rfl | rfl | rfl | hu
  ·rfl
  ·rfl
  ·rfl
  ·exact ih u hu
theorem append_spans {w : World} {base n c : Nat} {A : Option Addr} {l : List Sp} (hown : OwnSp w base A n c l) {A2 : Option Addr} {m c2 : Nat} {l2 : List Sp} (h2 : SpanS w ⟨A2, m, c2⟩ l2) (hb : n + m ≤ 1099511627776) (hbase : base ≤ w.heap.size) :
  ∃ A' c' w', (∀ ty, (Builtin.append_ #[23, 23] ty #[.slice A n c, .slice A2 m c2]).run Tryz.prog w = .ok (.slice A' (n + m) c') w') ∧ OwnSp w' base A' (n + m) c' (l ++ l2) ∧ w.grownBy w' (blkOf A) ∧ (blkOf A' = blkOf A ∨ blkOf A' = some w.heap.size) := by
 have hm := h2.len.1
 obtain ⟨A', c', w', h3, h4, h5, h6⟩ := append_gen Tryz.underlying23 infoSpan rfl (by omega) hown A2 m c2 (spCells l2) (by rw [spCells_len, hm]) h2.cells_ spCells_one (by simp only [maxLen]; omega) (by omega) hbase
 exact ⟨A', c', w', h3, by rw [OwnSp, spCells_app]; exact h4, h5, h6⟩
theorem step_append_spans {ops : Array Oper} {o : Oper} {a : Act} {w : World} {K : Act → World → Prop} {Q : Exit → Act → World → Prop} {E : Prop} (hgd : o.guard = none) (s x : Operand)
  (ho : o.op = .call { callee := .builtin .append, args := #[s, x], argTypes := #[23, 23] }) (base : Nat) {A : Option Addr} {n c : Nat} {l : List Sp} (hs : a.eval s = .slice A n c) (hown : OwnSp w base A n c l)
  {A2 : Option Addr} {m c2 : Nat} {l2 : List Sp} (hx : a.eval x = .slice A2 m c2) (h2 : SpanS w ⟨A2, m, c2⟩ l2) (hb : n + m ≤ 1099511627776) (hbase : base ≤ w.heap.size)
  (h : ∀ A' c' w', OwnSp w' base A' (n + m) c' (l ++ l2) → w.grownBy w' (blkOf A) → (blkOf A' = blkOf A ∨ blkOf A' = some w.heap.size) → K (a.put o.dst (.slice A' (n + m) c')) w') :
  if Region.wanted o (yielded ops a.tmps) = true then Oper.wp Tryz.prog o a w K Q else E := by
 have hw : Region.wanted o (yielded ops a.tmps) = true := by simp [Region.wanted, hgd]
 rw [if_pos hw]
 obtain ⟨A', c', w', hrun, h4, h5, h6⟩ := append_spans hown h2 hb hbase
 unfold Oper.wp execOp
 simp only [ho, resolve, invoke, builtin, Sem.run_bind, Sem.run_pure, Result.andThen_ok, List.map_toArray, List.map_cons, List.map_nil, hs, hx, hrun]
 exact h A' c' w' h4 h5 h6
theorem step_append_spans_nil {ops : Array Oper} {o : Oper} {a : Act} {w : World} {K : Act → World → Prop} {Q : Exit → Act → World → Prop} {E : Prop} (hgd : o.guard = none) (s x : Operand)
  (ho : o.op = .call { callee := .builtin .append, args := #[s, x], argTypes := #[23, 23] }) (base : Nat) (hs : a.eval s = .slice none 0 0)
  {A2 : Option Addr} {m c2 : Nat} {l2 : List Sp} (hx : a.eval x = .slice A2 m c2) (h2 : SpanS w ⟨A2, m, c2⟩ l2) (hb : m ≤ 1099511627776) (hbase : base ≤ w.heap.size)
  (h : ∀ A' c' w', OwnSp w' base A' m c' l2 → w.grownBy w' none → K (a.put o.dst (.slice A' m c')) w') :
  if Region.wanted o (yielded ops a.tmps) = true then Oper.wp Tryz.prog o a w K Q else E := by
 refine step_append_spans hgd s x ho base hs (show OwnSp _ _ none 0 0 [] from Own.nil_ _ _ _ _) hx h2 (by omega) hbase ?_
 intro A' c' w' h1 h2 h3
 simp only [Nat.zero_add, List.nil_append] at h1 ⊢
 exact h A' c' w' h1 h2
theorem OwnSp.hidden {w : World} {base n c : Nat} {A : Option Addr} {l : List Sp} (h : OwnSp w base A n c l) {M : List Nat} (hM : ∀ b ∈ M, b < base) : SpanS (hide M w) ⟨A, n, c⟩ l := by
 obtain ⟨h1, h2⟩ := h.spans
 refine ⟨h1, fun i x hx => ?_⟩
 obtain ⟨b, o, ha, g0, g1, g2⟩ := h2 i x hx
 simp only at ha
 subst ha
 have hb : b ∉ M := fun hm => by
  have := (h.lt b rfl).1
  have := hM b hm
  omega
 refine ⟨b, o, rfl, ?_, ?_, ?_⟩ <;> rw [hide_cell, if_neg hb] <;> assumption
theorem one_span (w : World) (lo hi v : Int) (t : TypeId) : SpanS (w.alloc (.cells #[.int .i64 lo, .int .i64 hi, .int .i64 v] t)) ⟨some ⟨w.heap.size, 0, none⟩, 1, 1⟩ [⟨lo, hi, v⟩] := by
 refine ⟨⟨rfl, Nat.le_refl _, by simp [maxLen]⟩, fun i y hy => ?_⟩
 match i, hy with
 | 0, hy =>
  simp at hy
  subst hy
  refine ⟨w.heap.size, 0, rfl, ?_, ?_, ?_⟩ <;> exact World.cell?_alloc_new w _ _ _
 | i + 1, hy => simp at hy
theorem one_span' {w : World} {H : Nat} (hH : w.heap.size = H) (lo hi v : Int) (t : TypeId) : SpanS (w.alloc (.cells #[.int .i64 lo, .int .i64 hi, .int .i64 v] t)) ⟨some ⟨H, 0, none⟩, 1, 1⟩ [⟨lo, hi, v⟩] := by
 subst hH
 exact one_span w lo hi v t
def Fr (M : List Nat) (w : World) (tb : Nat) (A : Option Addr) : Prop := ∀ b, blkOf A = some b → tb < b ∧ b ∉ M ∧ b < w.heap.size ∧ ∀ k : Nat, w.frozen? ⟨b, k, none⟩ = false
theorem Fr.kp {M M' N : List Nat} {w w' : World} {tb : Nat} {A : Option Addr} (h : Fr M w tb A) (hk : Kp N w w') (hN : ∀ b ∈ N, b ∈ M ∨ w.heap.size ≤ b) (hM : ∀ b ∈ M', b ∈ M ∨ w.heap.size ≤ b) : Fr M' w' tb A := by
 intro b hb
 obtain ⟨h1, h2, h3, h4⟩ := h b hb
 exact ⟨h1, fun h5 => (hM b h5).elim h2 (fun h6 => by omega), Nat.lt_of_lt_of_le h3 hk.size, fun k => by rw [hk.frozen ⟨b, k, none⟩ h3 (fun h5 => (hN b h5).elim h2 (fun h6 => by have h7 : w.heap.size ≤ b := h6; omega))]; exact h4 k⟩
theorem Own.unfr {w : World} {base n c : Nat} {e : TypeId} {size : Nat} {A : Option Addr} {xs : List Value} (h : Own w base e size A n c xs) : ∀ b, blkOf A = some b → ∀ k : Nat, w.frozen? ⟨b, k, none⟩ = false := by
 intro b hb k
 rcases h.2 with ⟨h', _⟩ | ⟨g, cap, cur, h', h1, h2, h3⟩
 ·injection h' with h'
  subst h'
  cases hb
 ·injection h' with h' _ hc
  subst h' hc
  injection hb with hb
  subst hb
  simp [World.frozen?, h2]
structure AddPost (M : List Nat) (w0 w w' : World) (tb j : Nat) (L' : List Sp) : Prop where
 row : ∃ A' n' c', w'.cell? ⟨tb, j, none⟩ = some (.slice A' n' c') ∧ SpanS (hide M w') ⟨A', n', c'⟩ L' ∧ Fr M w' tb A'
 kp : Kp [tb] w w'
 other : ∀ k, k ≠ j → w'.cell? ⟨tb, k, none⟩ = w.cell? ⟨tb, k, none⟩
 frozen : ∀ k, w'.frozen? ⟨tb, k, none⟩ = w.frozen? ⟨tb, k, none⟩
 ext : Ext w0 w'
def addL (L : List Sp) (lo hi v : Int) : List Sp := if 0 < v then L ++ [⟨lo, hi, v⟩] else L
set_option maxHeartbeats 1600000 in
set_option maxRecDepth 100000 in
theorem add_spec (M : List Nat) (w0 w : World) (tb j : Nat) (A : Option Addr) (n c : Nat) (L : List Sp) (lo hi x2 v : Int) (hM : tb ∈ M) (hMl : ∀ b ∈ M, b < w.heap.size) (hb : Ext w0 w) (htb : w0.heap.size ≤ tb)
  (hc : w.cell? ⟨tb, j, none⟩ = some (.slice A n c)) (hf : w.frozen? ⟨tb, j, none⟩ = false) (h : SpanS (hide M w) ⟨A, n, c⟩ L) (hl : L.length ≤ 1000) (hfr : Fr M w tb A) :
  Calls Tryz.prog 49 #[.pointer (some ⟨tb, j, none⟩), .agg #[.int .i64 lo, .int .i64 hi, .int .i64 x2], .int .i64 v] w fun e w' => e = .returned (.tuple #[]) ∧ AddPost M w0 w w' tb j (addL L lo hi v) := by
 have htl : tb < w.heap.size := hMl _ hM
 have HFR := Lib.hid hfr
 clear hfr
 obtain ⟨hn, _, _⟩ := h.len
 subst hn
 by_cases hv : 0 < v
 ·have hd : decide (0 < v) = true := by rw [decide_eq_true_eq]; exact hv
  have HA : Hid (addL L lo hi v = L ++ [⟨lo, hi, v⟩]) := Lib.hid (if_pos hv)
  have hbox : Ext w (w.alloc (.cells #[.int .i64 lo, .int .i64 hi, .int .i64 x2] 54)) := (Ext.refl _).alloc_ _
  go_enter Tryz.func49, Tryz.ntmps49
  go_wp2_with fail
  obtain ⟨w1, hw1⟩ : ∃ w1, w1 = w.alloc (.cells #[.int .i64 lo, .int .i64 hi, .int .i64 v] 54) := ⟨_, rfl⟩
  rw [← hw1]
  have hx1 : Ext w w1 := by rw [hw1]; exact (Ext.refl _).alloc_ _
  have hz1 : w1.heap.size = w.heap.size + 1 := by rw [hw1]; simp
  have c0 : w1.cell? ⟨w.heap.size, 0, none⟩ = some (.int .i64 lo) := by rw [hw1]; exact World.cell?_alloc_new w _ _ 0
  have c1 : w1.cell? ⟨w.heap.size, 1, none⟩ = some (.int .i64 hi) := by rw [hw1]; exact World.cell?_alloc_new w _ _ 1
  have c2 : w1.cell? ⟨w.heap.size, 2, none⟩ = some (.int .i64 v) := by rw [hw1]; exact World.cell?_alloc_new w _ _ 2
  have c3 : w1.cell? ⟨tb, j, none⟩ = some (.slice A L.length c) := keep_cell (ext_keep hx1) hc
  have cf : w1.frozen? ⟨tb, j, none⟩ = false := by rw [hx1.b.frozen (p := ⟨tb, j, none⟩) htl]; exact hf
  have HS : Hid (SpanS w1 ⟨A, L.length, c⟩ L) := Lib.hid ((h.sub (fun p v => hide_sub)).ext hx1)
  have HH : Hid (SpanS (hide M w1) ⟨A, L.length, c⟩ L) := Lib.hid (h.keep (hide_keep' (Kp.ofExt hx1)))
  have n0 := World.new_ne w1 _ c0
  have n1 := World.new_ne w1 _ c1
  have n2 := World.new_ne w1 _ c2
  have n3 := World.new_ne w1 _ c3
  clear hw1 hc hf h
  have SK : ∀ w', Ext w1 w' → (w'.cell? ⟨w.heap.size, 0, none⟩ = some (.int .i64 lo) ∧ w'.cell? ⟨w.heap.size, 1, none⟩ = some (.int .i64 hi) ∧ w'.cell? ⟨w.heap.size, 2, none⟩ = some (.int .i64 v)) := fun w' hw' =>
   ⟨keep_cell (ext_keep hw') c0, keep_cell (ext_keep hw') c1, keep_cell (ext_keep hw') c2⟩
  have SK' := Lib.hid SK
  have HC : Hid (∀ w', Ext w1 w' → w'.cell? ⟨tb, j, none⟩ = some (.slice A L.length c) ∧ w'.frozen? ⟨tb, j, none⟩ = false) := fun w' hw' => ⟨keep_cell (ext_keep hw') c3, by rw [hw'.b.frozen (p := ⟨tb, j, none⟩) (by show tb < _; omega)]; exact cf⟩
  have hne : tb ≠ w.heap.size := by omega
  have hne' : ¬ tb = w.heap.size := by omega
  clear SK
  go_region_law
   (first
    | (refine step_append_spans_nil (by rfl) _ _ (by rfl) w1.heap.size (by rfl) (by rfl) (HS.out.ext (by first | exact (Ext.refl _).drew_ | exact (Ext.refl _).drew_.alloc_ _)) (by omega) (by simp) ?_
       intro A1 k1 w2 hown1 hgr1
       have hx2 : Hid (Ext w1 w2) := ext_of_grown (by first | exact (Ext.refl _).drew_ | exact (Ext.refl _).drew_.alloc_ _) hgr1 (by intro k hk; cases hk)
       obtain ⟨e0, e1, e2⟩ := SK'.out _ hx2.out)
    | (refine step_append_spans (by rfl) _ _ (by rfl) w1.heap.size (by rfl) (show OwnSp _ _ A1 L.length k1 L from by first | exact hown1 | exact hown1.ext ((Ext.refl _).alloc_ _)) (by rfl) (show SpanS _ ⟨some ⟨_, 0, none⟩, 1, 1⟩ [⟨lo, hi, v⟩] from by first | exact one_span _ _ _ _ _ | exact (one_span' hz1 lo hi v 54).ext (ext_of_grown (Ext.refl _).drew_ hgr1 (by intro k hk; cases hk))) (by omega) (by first | exact hx2.out.b.size | exact (hx2.out.alloc_ _).b.size) ?_
       intro A2 k2 w3 hown2 hgr2 hbl2
       have hx3 : Hid (Ext w1 w3) := ext_of_grown (by first | exact hx2.out | exact hx2.out.alloc_ _) hgr2 (fun k hk => (hown1.lt k hk).1)
       obtain ⟨hc3, hf3⟩ := HC.out w3 hx3.out))
  all_goals
   have hxx := hx1.trans' hx3.out
   go_wp2_with fail
   go_end0
   refine ⟨rfl, ⟨⟨A2, _, k2, World.cell?_setCell_same _ _ _ hc3, ?_, ?_⟩, (Kp.ofExt hxx).trans (Kp.setCell _ _ _ _ (by simp)), fun k hk => ?_, fun k => ?_, (hb.trans' hxx).setCell_ htb _⟩⟩
   ·rw [HA.out]
    exact (OwnSp.hidden hown2 (fun b hb' => by have := hMl b hb'; omega)).keep (hide_keep' (Kp.setCell M w3 _ _ hM))
   ·intro b hb'
    have h1 := hown2.lt b hb'
    exact ⟨by omega, fun h2 => by have := hMl b h2; omega, by simpa using h1.2, fun k => by rw [World.frozen?_setCell]; exact Own.unfr hown2 b hb' k⟩
   ·rw [World.cell?_setCell_other _ _ _ _ (by intro e; injection e with _ e; exact hk e.symm)]
    exact hxx.b.cell (p := ⟨tb, k, none⟩) htl
   ·rw [World.frozen?_setCell]
    exact hxx.b.frozen (p := ⟨tb, k, none⟩) htl
 ·have hd : decide (0 < v) = false := by rw [decide_eq_false_iff_not]; exact hv
  have HA : Hid (addL L lo hi v = L) := Lib.hid (if_neg hv)
  go_enter Tryz.func49, Tryz.ntmps49
  go_wp2_with fail
  have HH := Lib.hid h
  have hx : Ext w (w.alloc (.cells #[.int .i64 lo, .int .i64 hi, .int .i64 x2] 54)) := (Ext.refl _).alloc_ _
  go_end0
  refine ⟨rfl, ⟨⟨_, _, _, keep_cell (ext_keep hx) hc, ?_, HFR.out.kp (N := []) (Kp.ofExt hx) (fun _ h => by cases h) (fun _ h => .inl h)⟩, Kp.ofExt hx, fun k _ => hx.b.cell (p := ⟨tb, k, none⟩) htl, fun k => hx.b.frozen (p := ⟨tb, k, none⟩) htl, hb.trans' hx⟩⟩
  rw [HA.out]
  exact HH.out.keep (hide_keep' (Kp.ofExt hx))
end Go.Proofs.YtbdabjhankgcmaaGreatDoor
namespace Go.Proofs.YtbdabjhankgcmaaGreatDoor
open Go.RowKit
def chAll (u : Us) (r : List Int) : Us × List Int :=
 let r1 := chR r
 let r2 := chR r1
 let r3 := chR r2
 let r4 := chR r3
 let r5 := chR r4
 (⟨chV r [u.cat, 2, 1], chV r1 [u.cls, 0, 1, 9, 202, 220, 230, 254], chV r2 [u.joi, 0, 1, 2, 3, 4, 5], chV r3 [u.bid, 0, 1, 2, 3, 4, 8, 10, 11], chV r4 [u.scr, 0, 1, 2, 3, 6, 7, 9, 10], chV r5 [u.sta, 0, 1, 2, 4]⟩, chR r5)
def chUs (wild : Bool) (c : Int) (r : List Int) : Us × List Int := if wild = true then chAll (usV c) r else (usV c, r)
def chIgn (wild : Bool) (c : Int) (r : List Int) : Bool × List Int := if c = 173 then (true, r) else if wild = true then (nxV 12 r == 0, r.tail) else (false, r)
structure Cols where
 cat : List Sp
 cls : List Sp
 joi : List Sp
 bid : List Sp
 scr : List Sp
 ign : List Sp
 sta : List Int
def stepC (wild : Bool) (c : Int) (C : Cols) (r : List Int) : Cols × List Int :=
 let u := chUs wild c r
 let g := chIgn wild c u.2
 (⟨addL C.cat c c u.1.cat, addL C.cls c c u.1.cls, addL C.joi c c u.1.joi, addL C.bid c c u.1.bid, addL C.scr c c u.1.scr, if g.1 = true then C.ign ++ [⟨c, c, 1⟩] else C.ign, C.sta ++ [u.1.sta]⟩, g.2)
def runC (wild : Bool) : List Int → Cols → List Int → Cols × List Int
 | [], C, r => (C, r)
 | c :: l, C, r => runC wild l (stepC wild c C r).1 (stepC wild c C r).2
theorem addL_len (L : List Sp) (a b v : Int) : (addL L a b v).length ≤ L.length + 1 := by
 unfold addL
 split <;> simp
def ColAt (M : List Nat) (w : World) (tb j : Nat) (L : List Sp) : Prop := ∃ A n c, w.cell? ⟨tb, j, none⟩ = some (.slice A n c) ∧ SpanS (hide M w) ⟨A, n, c⟩ L ∧ w.frozen? ⟨tb, j, none⟩ = false ∧ Fr M w tb A
theorem ColAt.kp {M N : List Nat} {w w' : World} {tb j : Nat} {L : List Sp} (h : ColAt M w tb j L) (hk : Kp N w w') (hN : ∀ b ∈ N, b ∈ M ∨ w.heap.size ≤ b) (ht : tb ∉ N) : ColAt M w' tb j L := by
 obtain ⟨A, n, c, h1, h2, h3, h4⟩ := h
 have hlt := World.block_lt_of_cell? w _ h1
 exact ⟨A, n, c, by rw [hk.cell _ hlt ht]; exact h1, h2.keep (hide_keep' (hk.mono hN)), by rw [hk.frozen ⟨tb, j, none⟩ hlt ht]; exact h3, h4.kp hk hN (fun _ h => .inl h)⟩
theorem ColAt.add {M : List Nat} {w0 w w' : World} {tb j k : Nat} {L L' : List Sp} (h : ColAt M w tb k L) (hp : AddPost M w0 w w' tb j L') (hkj : k ≠ j) (hM : tb ∈ M) : ColAt M w' tb k L := by
 obtain ⟨A, n, c, h1, h2, h3, h4⟩ := h
 exact ⟨A, n, c, (hp.other k hkj).trans h1, h2.keep (hide_keep' (hp.kp.mono (by intro b hb; simp at hb; subst hb; exact .inl hM))), (hp.frozen k).trans h3, h4.kp hp.kp (by intro b hb; simp at hb; subst hb; exact .inl hM) (fun _ h => .inl h)⟩
theorem ColAt.self {M : List Nat} {w0 w w' : World} {tb j : Nat} {L L' : List Sp} (h : ColAt M w tb j L) (hp : AddPost M w0 w w' tb j L') : ColAt M w' tb j L' := by
 obtain ⟨A, n, c, _, _, h3, _⟩ := h
 obtain ⟨A', n', c', h1, h2, h4⟩ := hp.row
 exact ⟨A', n', c', h1, h2, (hp.frozen j).trans h3, h4⟩
theorem ColAt.nil_ {M : List Nat} {w : World} {tb j : Nat} (h : w.cell? ⟨tb, j, none⟩ = some (.slice none 0 0)) (hf : w.frozen? ⟨tb, j, none⟩ = false) : ColAt M w tb j [] := ⟨none, 0, 0, h, SpanS.nil_ _, hf, fun b hb => by cases hb⟩
theorem add_col (M : List Nat) (w0 w : World) (tb j : Nat) (L : List Sp) (lo hi x2 v : Int) (hM : tb ∈ M) (hMl : ∀ b ∈ M, b < w.heap.size) (hb : Ext w0 w) (htb : w0.heap.size ≤ tb) (h : ColAt M w tb j L) (hl : L.length ≤ 1000) :
  Calls Tryz.prog 49 #[.pointer (some ⟨tb, j, none⟩), .agg #[.int .i64 lo, .int .i64 hi, .int .i64 x2], .int .i64 v] w fun e w' => e = .returned (.tuple #[]) ∧ AddPost M w0 w w' tb j (addL L lo hi v) := by
 obtain ⟨A, n, c, h1, h2, h3, h4⟩ := h
 exact add_spec M w0 w tb j A n c L lo hi x2 v hM hMl hb htb h1 h3 h2 hl h4
end Go.Proofs.YtbdabjhankgcmaaGreatDoor
