/- Rows of mappings of the call's own; the state in which keep.decomps works. -/
import Derived.Test.YtbdabjhankgcmaaGreatDoorGv
import Derived.Test.YtbdabjhankgcmaaGreatDoorGi
namespace Go.Proofs.YtbdabjhankgcmaaGreatDoor
open Go.RowKit
def mpCells : List Mp → List SV → List Value
 | m :: L, s :: Z => .int .i64 m.lo :: .slice s.a s.n s.c :: mpCells L Z
 | _, _ => []
theorem mpCells_len : ∀ (L : List Mp) (Z : List SV), L.length = Z.length → (mpCells L Z).length = L.length * 2
 | [], [], _ => rfl
 | m :: L, s :: Z, h => by simp only [mpCells, List.length_cons, mpCells_len L Z (by simpa using h)]; omega
 | [], _ :: _, h => by simp at h
 | _ :: _, [], h => by simp at h
theorem mpCells_app : ∀ (L : List Mp) (Z : List SV) (m : Mp) (s : SV), L.length = Z.length → mpCells (L ++ [m]) (Z ++ [s]) = mpCells L Z ++ [.int .i64 m.lo, .slice s.a s.n s.c]
 | [], [], _, _, _ => rfl
 | m :: L, s :: Z, x, y, h => by simp only [List.cons_append, mpCells, mpCells_app L Z x y (by simpa using h)]
 | [], _ :: _, _, _, h => by simp at h
 | _ :: _, [], _, _, h => by simp at h
theorem mpCells_get : ∀ (L : List Mp) (Z : List SV) (i : Nat) (m : Mp) (s : SV), L[i]? = some m → Z[i]? = some s → (mpCells L Z)[i * 2]? = some (.int .i64 m.lo) ∧ (mpCells L Z)[i * 2 + 1]? = some (.slice s.a s.n s.c)
 | [], _, i, m, s, h, _ => by simp at h
 | _ :: _, [], i, m, s, _, h => by simp at h
 | x :: L, y :: Z, 0, m, s, h, h' => by simp at h h'; subst h h'; simp [mpCells]
 | x :: L, y :: Z, i + 1, m, s, h, h' => by
  simp only [List.getElem?_cons_succ] at h h'
  have := mpCells_get L Z i m s h h'
  rw [show (i + 1) * 2 = i * 2 + 2 from by omega]
  exact this
theorem mpCells_inv : ∀ (L : List Mp) (Z : List SV) (j : Nat) (u : Value), (mpCells L Z)[j]? = some u → ∃ i m s, L[i]? = some m ∧ Z[i]? = some s ∧ (j = i * 2 ∧ u = .int .i64 m.lo ∨ j = i * 2 + 1 ∧ u = .slice s.a s.n s.c)
 | [], _, j, u, h => by simp [mpCells] at h
 | _ :: _, [], j, u, h => by simp [mpCells] at h
 | x :: L, y :: Z, 0, u, h => ⟨0, x, y, rfl, rfl, .inl ⟨rfl, by simp [mpCells] at h; exact h.symm⟩⟩
 | x :: L, y :: Z, 1, u, h => ⟨0, x, y, rfl, rfl, .inr ⟨rfl, by simp [mpCells] at h; exact h.symm⟩⟩
 | x :: L, y :: Z, j + 2, u, h => by
  obtain ⟨i, m, s, h1, h2, h3⟩ := mpCells_inv L Z j u h
  refine ⟨i + 1, m, s, h1, h2, ?_⟩
  rcases h3 with ⟨e1, e2⟩ | ⟨e1, e2⟩
  ·exact .inl ⟨by omega, e2⟩
  ·exact .inr ⟨by omega, e2⟩
theorem mpCells_one : ∀ (L : List Mp) (Z : List SV), ∀ u ∈ mpCells L Z, u.oneCell' = true
 | [], _, u, h => by cases h
 | _ :: _, [], u, h => by cases h
 | x :: L, y :: Z, u, h => by
  simp only [mpCells, List.mem_cons] at h
  rcases h with rfl | rfl | h
  ·rfl
  ·rfl
  ·exact mpCells_one L Z u h
theorem infoMap : (Tryz.prog.info? 74).map (fun i => (i.zero, i.size, i.bytes)) = some (some (.agg #[.int .i64 0, .slice none 0 0]), 2, 32) := by kernel_rfl
def OwnMp (M : List Nat) (w : World) (base : Nat) (A : Option Addr) (n c : Nat) (L : List Mp) : Prop :=
 ∃ Z, L.length = Z.length ∧ Own w base 74 2 A n c (mpCells L Z) ∧ ∀ (i : Nat) (m : Mp) (s : SV), L[i]? = some m → Z[i]? = some s → IntS (hide M w) s m.to
theorem OwnMp.nil_ (M : List Nat) (w : World) (base : Nat) : OwnMp M w base none 0 0 [] := ⟨[], rfl, Own.nil_ _ _ _ _, fun i m s h => by simp at h⟩
theorem OwnMp.lt {M : List Nat} {w : World} {base n c : Nat} {A : Option Addr} {L : List Mp} (h : OwnMp M w base A n c L) : ∀ k, blkOf A = some k → base ≤ k ∧ k < w.heap.size := by
 obtain ⟨Z, _, h, _⟩ := h
 exact h.lt
theorem OwnMp.len {M : List Nat} {w : World} {base n c : Nat} {A : Option Addr} {L : List Mp} (h : OwnMp M w base A n c L) : n = L.length ∧ n ≤ c ∧ c ≤ maxLen := by
 obtain ⟨Z, hz, h, _⟩ := h
 have hl := h.len
 rw [mpCells_len L Z hz] at hl
 exact ⟨by omega, h.le⟩
theorem OwnMp.maps {M : List Nat} {w : World} {base n c : Nat} {A : Option Addr} {L : List Mp} (h : OwnMp M w base A n c L) {M' : List Nat} (hA : ∀ b, blkOf A = some b → b ∉ M') (hM : ∀ b ∈ M', b ∈ M) : MapS (hide M' w) ⟨A, n, c⟩ L := by
 obtain ⟨h1, h2, h3⟩ := h.len
 obtain ⟨Z, hz, h, ht⟩ := h
 refine ⟨⟨h1, by show L.length ≤ c; omega, h3⟩, fun i x hx => ?_⟩
 have hi : i < Z.length := by have := (List.getElem?_eq_some_iff.1 hx).1; omega
 obtain ⟨g0, g1⟩ := mpCells_get L Z i x Z[i] hx (List.getElem?_eq_getElem hi)
 obtain ⟨b, rfl, hc⟩ := h.cells_ _ _ g0
 obtain ⟨b1, hb1, hc1⟩ := h.cells_ _ _ g1
 injection hb1 with hb1; injection hb1 with hb1; subst hb1
 have hb : b ∉ M' := hA b rfl
 refine ⟨b, 0, Z[i].a, Z[i].n, Z[i].c, rfl, ?_, ?_, ?_⟩
 ·rw [hide_cell, if_neg hb, Nat.zero_add]; exact hc
 ·rw [hide_cell, if_neg hb, Nat.zero_add]; exact hc1
 ·refine (ht i x Z[i] hx (List.getElem?_eq_getElem hi)).sub fun p v hp => ?_
  rw [hide_cell] at hp ⊢
  by_cases hm : p.block ∈ M
  ·rw [if_pos hm] at hp; cases hp
  ·rw [if_neg hm] at hp; rw [if_neg fun h' => hm (hM _ h')]; exact hp
theorem hide_nil (w : World) (p : Addr) : (hide [] w).cell? p = w.cell? p := by rw [hide_cell]; simp
theorem OwnMp.maps0 {M : List Nat} {w : World} {base n c : Nat} {A : Option Addr} {L : List Mp} (h : OwnMp M w base A n c L) : MapS w ⟨A, n, c⟩ L :=
 (h.maps (M' := []) (fun _ _ => by simp) (fun b hb => (by cases hb))).sub fun p v hp => by rw [hide_nil] at hp; exact hp
theorem OwnMp.kp {M M' N : List Nat} {w w' : World} {base n c : Nat} {A : Option Addr} {L : List Mp} (h : OwnMp M w base A n c L) (hk : Kp N w w') (hA : ∀ b, blkOf A = some b → b ∉ N) (h1 : ∀ b ∈ M, b ∈ M') (h2 : ∀ b ∈ M', b ∈ M ∨ w.heap.size ≤ b) (hN : ∀ b ∈ N, b ∈ M ∨ w.heap.size ≤ b) : OwnMp M' w' base A n c L := by
 obtain ⟨Z, hz, h, ht⟩ := h
 exact ⟨Z, hz, Own.kp h hk hA, fun i m s hm hs => (ht i m s hm hs).keep (hide_keep (hk.mono hN) h1 h2)⟩
theorem hide_less {M M' : List Nat} {w : World} (h : ∀ b ∈ M', b ∈ M) {p : Addr} {v : Value} (hp : (hide M w).cell? p = some v) : (hide M' w).cell? p = some v := by
 rw [hide_cell] at hp ⊢
 by_cases hm : p.block ∈ M
 ·rw [if_pos hm] at hp; cases hp
 ·rw [if_neg hm] at hp; rw [if_neg fun h' => hm (h _ h')]; exact hp
theorem OwnMp.less {M M' : List Nat} {w : World} {base n c : Nat} {A : Option Addr} {L : List Mp} (h : OwnMp M w base A n c L) (hM : ∀ b ∈ M', b ∈ M) : OwnMp M' w base A n c L := by
 obtain ⟨Z, hz, h, ht⟩ := h
 exact ⟨Z, hz, h, fun i m s hm hs => (ht i m s hm hs).sub fun p v hp => hide_less hM hp⟩
theorem append_map {M : List Nat} {w : World} {base n c : Nat} {A : Option Addr} {L : List Mp} (hown : OwnMp M w base A n c L) {q o : Nat} {lo : Int} {za : Option Addr} {zn zc : Nat} {to : List Int}
  (h0 : w.cell? ⟨q, o, none⟩ = some (.int .i64 lo)) (h1 : w.cell? ⟨q, o + 1, none⟩ = some (.slice za zn zc)) (hz : IntS (hide M w) ⟨za, zn, zc⟩ to) (hA : ∀ b, blkOf A = some b → b ∈ M) (hb : n + 1 ≤ 1099511627776) (hbase : base ≤ w.heap.size) :
  ∃ A' c' w', (∀ ty, (Builtin.append_ #[24, 24] ty #[.slice A n c, .slice (some ⟨q, o, none⟩) 1 1]).run Tryz.prog w = .ok (.slice A' (n + 1) c') w') ∧ OwnMp (w.heap.size :: M) w' base A' (n + 1) c' (L ++ [⟨lo, to⟩]) ∧ w.grownBy w' (blkOf A) ∧ (blkOf A' = blkOf A ∨ blkOf A' = some w.heap.size) := by
 obtain ⟨Z, hlz, hown, ht⟩ := hown
 obtain ⟨A', c', w', h3, h4, h5, h6⟩ := append_gen Tryz.underlying24 infoMap rfl (by omega) hown (some ⟨q, o, none⟩) 1 1 [.int .i64 lo, .slice za zn zc] rfl
  (fun j u hj => by
   refine ⟨q, o, rfl, ?_⟩
   match j, hj with
   | 0, hj => simp at hj; subst hj; exact h0
   | 1, hj => simp at hj; subst hj; exact h1
   | j + 2, hj => simp at hj)
  (by intro u hu; simp only [List.mem_cons, List.not_mem_nil, or_false] at hu; rcases hu with rfl | rfl <;> rfl) (by simp only [maxLen]; omega) (by omega) hbase
 have hk : Kp M w w' := Kp.ofGrown h5 hA
 have hkeep : ∀ {s : SV} {l : List Int}, IntS (hide M w) s l → IntS (hide (w.heap.size :: M) w') s l := fun h => h.keep (hide_keep hk (fun b hb => by simp [hb]) (fun b hb => by
  rw [List.mem_cons] at hb
  rcases hb with rfl | hb
  ·exact .inr (Nat.le_refl _)
  ·exact .inl hb))
 refine ⟨A', c', w', h3, ⟨Z ++ [⟨za, zn, zc⟩], by simp [hlz], ?_, fun i m s hm hs => ?_⟩, h5, h6⟩
 ·rw [mpCells_app L Z _ _ hlz]; exact h4
 ·by_cases hi : i < L.length
  ·rw [List.getElem?_append_left hi] at hm
   rw [List.getElem?_append_left (by omega)] at hs
   exact hkeep (ht i m s hm hs)
  ·have hi' : i = L.length := by
    have := (List.getElem?_eq_some_iff.1 hm).1
    simp at this
    omega
   subst hi'
   rw [List.getElem?_append_right (Nat.le_refl _)] at hm
   rw [hlz, List.getElem?_append_right (Nat.le_refl _)] at hs
   simp at hm hs
   subst hm hs
   exact hkeep hz
theorem one_int' {w : World} {H : Nat} (hH : w.heap.size = H) (x : Int) : IntS (w.alloc (.cells #[.int .i64 x] 3)) ⟨some ⟨H, 0, none⟩, 1, 1⟩ [x] := by
 subst hH
 exact one_int w x
theorem step_append_ints {ops : Array Oper} {o : Oper} {a : Act} {w : World} {K : Act → World → Prop} {Q : Exit → Act → World → Prop} {E : Prop} (hgd : o.guard = none) (s x : Operand)
  (ho : o.op = .call { callee := .builtin .append, args := #[s, x], argTypes := #[22, 22] }) (base : Nat) {A : Option Addr} {n c : Nat} {l : List Int} (hs : a.eval s = .slice A n c) (hown : OwnI w base A n c l)
  {A2 : Option Addr} {m c2 : Nat} {l2 : List Int} (hx : a.eval x = .slice A2 m c2) (h2 : IntS w ⟨A2, m, c2⟩ l2) (hb : n + m ≤ 1099511627776) (hbase : base ≤ w.heap.size)
  (h : ∀ A' c' w', OwnI w' base A' (n + m) c' (l ++ l2) → w.grownBy w' (blkOf A) → (blkOf A' = blkOf A ∨ blkOf A' = some w.heap.size) → K (a.put o.dst (.slice A' (n + m) c')) w') :
  if Region.wanted o (yielded ops a.tmps) = true then Oper.wp Tryz.prog o a w K Q else E := by
 have hw : Region.wanted o (yielded ops a.tmps) = true := by simp [Region.wanted, hgd]
 rw [if_pos hw]
 obtain ⟨A', c', w', hrun, h4, h5, h6⟩ := append_ints hown h2 hb hbase
 unfold Oper.wp execOp
 simp only [ho, resolve, invoke, builtin, Sem.run_bind, Sem.run_pure, Result.andThen_ok, List.map_toArray, List.map_cons, List.map_nil, hs, hx, hrun]
 exact h A' c' w' h4 h5 h6
theorem step_append_map {ops : Array Oper} {o : Oper} {a : Act} {w : World} {K : Act → World → Prop} {Q : Exit → Act → World → Prop} {E : Prop} (hgd : o.guard = none) (s x : Operand)
  (ho : o.op = .call { callee := .builtin .append, args := #[s, x], argTypes := #[24, 24] }) (M : List Nat) (base : Nat) {A : Option Addr} {n c : Nat} {L : List Mp} (hs : a.eval s = .slice A n c) (hown : OwnMp M w base A n c L)
  {q : Nat} {lo : Int} {za : Option Addr} {zn zc : Nat} {to : List Int} (hx : a.eval x = .slice (some ⟨q, 0, none⟩) 1 1)
  (h0 : w.cell? ⟨q, 0, none⟩ = some (.int .i64 lo)) (h1 : w.cell? ⟨q, 1, none⟩ = some (.slice za zn zc)) (hz : IntS (hide M w) ⟨za, zn, zc⟩ to) (hA : ∀ b, blkOf A = some b → b ∈ M) (hb : n + 1 ≤ 1099511627776) (hbase : base ≤ w.heap.size)
  (h : ∀ A' c' w', OwnMp (w.heap.size :: M) w' base A' (n + 1) c' (L ++ [⟨lo, to⟩]) → w.grownBy w' (blkOf A) → (blkOf A' = blkOf A ∨ blkOf A' = some w.heap.size) → K (a.put o.dst (.slice A' (n + 1) c')) w') :
  if Region.wanted o (yielded ops a.tmps) = true then Oper.wp Tryz.prog o a w K Q else E := by
 have hw : Region.wanted o (yielded ops a.tmps) = true := by simp [Region.wanted, hgd]
 rw [if_pos hw]
 obtain ⟨A', c', w', hrun, h4, h5, h6⟩ := append_map hown h0 h1 hz hA hb hbase
 unfold Oper.wp execOp
 simp only [ho, resolve, invoke, builtin, Sem.run_bind, Sem.run_pure, Result.andThen_ok, List.map_toArray, List.map_cons, List.map_nil, hs, hx, hrun]
 exact h A' c' w' h4 h5 h6
theorem Own.types {w : World} {b1 b2 : Nat} {e1 e2 : TypeId} {s1 s2 n1 n2 c1 c2 : Nat} {A1 A2 : Option Addr} {x1 x2 : List Value} (h1 : Own w b1 e1 s1 A1 n1 c1 x1) (h2 : Own w b2 e2 s2 A2 n2 c2 x2) (hne : e1 ≠ e2) : ∀ b, blkOf A1 = some b → blkOf A2 ≠ some b := by
 intro b hb hb2
 rcases h1.2 with ⟨h', _⟩ | ⟨g, cap, cur, h', _, k1, _⟩
 ·injection h' with h'; subst h'; cases hb
 ·injection h' with h'; subst h'
  rcases h2.2 with ⟨h'', _⟩ | ⟨g2, cap2, cur2, h'', _, k2, _⟩
  ·injection h'' with h''; subst h''; cases hb2
  ·injection h'' with h''; subst h''
   simp only [blkOf, Option.map_some, Option.some.injEq] at hb hb2
   subst hb hb2
   rw [k1] at k2
   injection k2 with k2
   injection k2 with _ k2
   exact hne k2
theorem Kp.via {M N : List Nat} {a b c : World} (h : Kp M a b) (k : Kp N b c) (hN : ∀ x ∈ N, x ∈ M ∨ a.heap.size ≤ x) : Kp M a c :=
 ⟨k.os.trans h.os, k.tape.trans h.tape, k.output.trans h.output, Nat.le_trans h.size k.size, fun p hp hm => (k.block p (Nat.lt_of_lt_of_le hp h.size) (fun hn => (hN p hn).elim hm (fun h' => by omega))).trans (h.block p hp hm)⟩
structure DSt (we w0 w : World) (g tb bs : Nat) (E M : List Nat) (A9 : Option Addr) (n9 c9 : Nat) (A10 : Option Addr) (n10 c10 : Nat) (D : Decs) (r : List Int) : Prop where
 src : Src w0 w g r
 ext : Ext w0 w
 kp : Kp [g, tb] we w
 oth : ∀ k, k ≠ 9 → k ≠ 10 → w.cell? ⟨tb, k, none⟩ = we.cell? ⟨tb, k, none⟩
 frz : ∀ k, w.frozen? ⟨tb, k, none⟩ = false
 v9 : w.cell? ⟨tb, 9, none⟩ = some (.slice A9 n9 c9)
 v10 : w.cell? ⟨tb, 10, none⟩ = some (.slice A10 n10 c10)
 o9 : OwnMp M w bs A9 n9 c9 D.dec
 o10 : OwnI w bs A10 n10 c10 D.exc
 hg : g ∈ M
 ht : tb ∈ M
 h9 : ∀ b, blkOf A9 = some b → b ∈ M
 h10 : ∀ b, blkOf A10 = some b → b ∈ M
 hM : ∀ b ∈ M, b < w.heap.size
 hE : ∀ b ∈ E, b ∈ M ∧ b < bs
section
variable {we w0 w w' : World} {g tb bs n9 c9 n10 c10 : Nat} {E M M' N : List Nat} {A9 A10 : Option Addr} {D : Decs} {r r' : List Int}
theorem DSt.step (h : DSt we w0 w g tb bs E M A9 n9 c9 A10 n10 c10 D r) (hk : Kp N w w') (hs : Src w0 w' g r') (hb : Ext w0 w') (htN : tb ∉ N) (h1 : ∀ b ∈ M, b ∈ M') (h2 : ∀ b ∈ M', b ∈ M ∨ w.heap.size ≤ b) (h3 : ∀ b ∈ M', b < w'.heap.size)
  (hN : ∀ b ∈ N, b = g ∨ b ∈ M' ∧ we.heap.size ≤ b ∧ blkOf A9 ≠ some b ∧ blkOf A10 ≠ some b) (hgt : g < bs) : DSt we w0 w' g tb bs E M' A9 n9 c9 A10 n10 c10 D r' := by
 have htl := h.hM tb h.ht
 have hb9 : ∀ b, blkOf A9 = some b → b ∉ N := fun b hb hn => by
  rcases hN b hn with rfl | ⟨_, _, h', _⟩
  ·have := (h.o9.lt b hb).1; omega
  ·exact h' hb
 have hb10 : ∀ b, blkOf A10 = some b → b ∉ N := fun b hb hn => by
  rcases hN b hn with rfl | ⟨_, _, _, h'⟩
  ·have := (Own.lt h.o10 b hb).1; omega
  ·exact h' hb
 have hNM : ∀ b ∈ N, b ∈ M ∨ w.heap.size ≤ b := fun b hn => by
  rcases hN b hn with rfl | ⟨h', _⟩
  ·exact .inl h.hg
  ·exact h2 b h'
 exact ⟨hs, hb, h.kp.via hk fun b hn => by
   rcases hN b hn with rfl | ⟨_, h', _⟩
   ·exact .inl (by simp)
   ·exact .inr h', fun k k1 k2 => (hk.cell ⟨tb, k, none⟩ htl htN).trans (h.oth k k1 k2), fun k => (hk.frozen ⟨tb, k, none⟩ htl htN).trans (h.frz k), (hk.cell ⟨tb, 9, none⟩ htl htN).trans h.v9, (hk.cell ⟨tb, 10, none⟩ htl htN).trans h.v10,
  h.o9.kp hk hb9 h1 h2 hNM, Own.kp h.o10 hk hb10, h1 g h.hg, h1 tb h.ht, fun b hb => h1 b (h.h9 b hb), fun b hb => h1 b (h.h10 b hb), h3, fun b hb => ⟨h1 b (h.hE b hb).1, (h.hE b hb).2⟩⟩
theorem DSt.next (h : DSt we w0 w g tb bs E M A9 n9 c9 A10 n10 c10 D r) (hk : Kp [g] w w') (hs : Src w0 w' g r') (hb : Ext w0 w') (hgt : g < tb) (htb : tb < bs) : DSt we w0 w' g tb bs E M A9 n9 c9 A10 n10 c10 D r' :=
 h.step hk hs hb (by simp; omega) (fun _ h => h) (fun _ h => .inl h) (fun b hb => Nat.lt_of_lt_of_le (h.hM b hb) hk.size) (fun b hb => .inl (by simpa using hb)) (by omega)
theorem DSt.more (h : DSt we w0 w g tb bs E M A9 n9 c9 A10 n10 c10 D r) (hx : Ext w w') (hgt : g < bs) (h1 : ∀ b ∈ M, b ∈ M') (h2 : ∀ b ∈ M', b ∈ M ∨ w.heap.size ≤ b) (h3 : ∀ b ∈ M', b < w'.heap.size) : DSt we w0 w' g tb bs E M' A9 n9 c9 A10 n10 c10 D r :=
 h.step (N := []) (Kp.ofExt hx) (h.src.kp (M := []) (Kp.ofExt hx) (by simp)) (h.ext.trans' hx) (by simp) h1 h2 h3 (fun b hb => (by cases hb)) hgt
theorem DSt.ext_ (h : DSt we w0 w g tb bs E M A9 n9 c9 A10 n10 c10 D r) (hx : Ext w w') (hgt : g < bs) : DSt we w0 w' g tb bs E M A9 n9 c9 A10 n10 c10 D r :=
 h.more hx hgt (fun _ h => h) (fun _ h => .inl h) (fun b hb => Nat.lt_of_lt_of_le (h.hM b hb) hx.b.size)
theorem DSt.less (h : DSt we w0 w g tb bs E M A9 n9 c9 A10 n10 c10 D r) (hM : ∀ b ∈ M', b ∈ M) (hg : g ∈ M') (ht : tb ∈ M') (h9 : ∀ b, blkOf A9 = some b → b ∈ M') (h10 : ∀ b, blkOf A10 = some b → b ∈ M') (hE : ∀ b ∈ E, b ∈ M') : DSt we w0 w g tb bs E M' A9 n9 c9 A10 n10 c10 D r :=
 ⟨h.src, h.ext, h.kp, h.oth, h.frz, h.v9, h.v10, h.o9.less hM, h.o10, hg, ht, h9, h10, fun b hb => h.hM b (hM b hb), fun b hb => ⟨hE b hb, (h.hE b hb).2⟩⟩
theorem i_ne_m : 3 ≠ 74 := by decide
theorem DSt.push10 (h : DSt we w0 w g tb bs E M A9 n9 c9 A10 n10 c10 D r) {A' : Option Addr} {n' c' : Nat} {exc' : List Int} (hown : OwnI w' bs A' n' c' exc') (hgr : w.grownBy w' (blkOf A10)) (hat : blkOf A' = blkOf A10 ∨ blkOf A' = some w.heap.size) (hgt : g < tb) (htb : tb < bs) (hwe : we.heap.size ≤ bs) (hw0 : w0.heap.size ≤ tb) :
  ∃ M', DSt we w0 (w'.setCell ⟨tb, 10, none⟩ (.slice A' n' c')) g tb bs E M' A9 n9 c9 A' n' c' { D with exc := exc' } r ∧ (∀ b ∈ M', b ∈ M ∨ b = w.heap.size) ∧ (∀ b ∈ M, b ∈ M') := by
 have htl := h.hM tb h.ht
 have hk : Kp (blkOf A10).toList w w' := Kp.ofGrown hgr (by intro b hb; simp [hb])
 have hne : ∀ b, blkOf A10 = some b → blkOf A9 ≠ some b := by
  obtain ⟨Z, _, ho, _⟩ := h.o9
  exact Own.types h.o10 ho i_ne_m
 have hlt := Own.lt h.o10
 have hmA : ∀ b, b ∈ (blkOf A10).toList ↔ blkOf A10 = some b := by intro b; simp
 have htA : tb ∉ (blkOf A10).toList := by rw [hmA]; intro hb; have := (hlt _ hb).1; omega
 have hgA : g ∉ (blkOf A10).toList := by rw [hmA]; intro hb; have := (hlt _ hb).1; omega
 have hc : ∀ k, w'.cell? ⟨tb, k, none⟩ = w.cell? ⟨tb, k, none⟩ := fun k => hk.cell ⟨tb, k, none⟩ htl htA
 have hf : ∀ k, w'.frozen? ⟨tb, k, none⟩ = w.frozen? ⟨tb, k, none⟩ := fun k => hk.frozen ⟨tb, k, none⟩ htl htA
 have hx : Ext w0 w' := ext_of_grown h.ext hgr (fun k hk => by have := (hlt k hk).1; omega)
 have hks : Kp [tb] w' (w'.setCell ⟨tb, 10, none⟩ (.slice A' n' c')) := Kp.setCell _ _ _ _ (by simp)
 have hk2 : Kp (tb :: (blkOf A10).toList) w (w'.setCell ⟨tb, 10, none⟩ (.slice A' n' c')) := (hk.mono (fun b hb => .inl (by simp only [List.mem_cons]; exact .inr hb))).trans (hks.mono (fun b hb => .inl (by simp at hb; simp [hb])))
 have hzs : w.heap.size ≤ w'.heap.size := hk.size
 obtain ⟨M', m1, m2, m3, m4, m5⟩ : ∃ M' : List Nat, (∀ b ∈ M, b ∈ M') ∧ (∀ b ∈ M', b ∈ M ∨ w.heap.size ≤ b) ∧ (∀ b, blkOf A' = some b → b ∈ M') ∧ (∀ b ∈ M', b < w'.heap.size) ∧ (∀ b ∈ M', b ∈ M ∨ b = w.heap.size) := by
  rcases hat with hat | hat
  ·exact ⟨M, fun _ h => h, fun _ h => .inl h, fun b hb => h.h10 b (by rw [← hat]; exact hb), fun b hb => Nat.lt_of_lt_of_le (h.hM b hb) hk.size, fun _ h => .inl h⟩
  ·refine ⟨w.heap.size :: M, fun b hb => by simp [hb], fun b hb => ?_, fun b hb => ?_, fun b hb => ?_, fun b hb => ?_⟩
   ·simp at hb; rcases hb with rfl | hb
    ·exact .inr (Nat.le_refl _)
    ·exact .inl hb
   ·rw [hat] at hb; injection hb with hb; simp [hb]
   ·simp at hb; rcases hb with rfl | hb
    ·exact (Own.lt hown _ hat).2
    ·exact Nat.lt_of_lt_of_le (h.hM b hb) hk.size
   ·simp at hb; rcases hb with rfl | hb
    ·exact .inr rfl
    ·exact .inl hb
 refine ⟨M', ⟨h.src.kp hk2 (by simp only [List.mem_cons, not_or]; exact ⟨by omega, hgA⟩), hx.setCell_ hw0 _, h.kp.via hk2 (fun b hb => ?_), fun k k1 k2 => ?_, fun k => ?_, ?_, ?_, ?_, ?_, m1 g h.hg, m1 tb h.ht, fun b hb => m1 b (h.h9 b hb), m3, fun b hb => by simpa using m4 b hb, fun b hb => ⟨m1 b (h.hE b hb).1, (h.hE b hb).2⟩⟩, m5, m1⟩
 ·rw [List.mem_cons] at hb
  rcases hb with rfl | hb
  ·exact .inl (by simp)
  ·exact .inr (Nat.le_trans hwe (hlt b ((hmA b).1 hb)).1)
 ·rw [World.cell?_setCell_other _ _ _ _ (by intro e; injection e with _ e; exact k2 e.symm), hc k]
  exact h.oth k k1 k2
 ·rw [World.frozen?_setCell, hf k]
  exact h.frz k
 ·rw [World.cell?_setCell_other _ _ _ _ (by intro e; injection e with _ e; cases e), hc 9]
  exact h.v9
 ·exact World.cell?_setCell_same _ _ _ ((hc 10).trans h.v10)
 ·refine h.o9.kp hk2 (fun b hb hm => ?_) m1 m2 (fun b hb => ?_)
  ·rw [List.mem_cons] at hm
   rcases hm with rfl | hm
   ·have := (h.o9.lt b hb).1; omega
   ·exact hne b ((hmA b).1 hm) hb
  ·rw [List.mem_cons] at hb
   rcases hb with rfl | hb
   ·exact .inl h.ht
   ·exact .inl (h.h10 b ((hmA b).1 hb))
 ·refine Own.kp hown hks (fun b hb hm => ?_)
  simp at hm
  have := (Own.lt hown b hb).1
  omega
theorem DSt.push9 (h : DSt we w0 w g tb bs E M A9 n9 c9 A10 n10 c10 D r) {A' : Option Addr} {n' c' : Nat} {dec' : List Mp} (hown : OwnMp (w.heap.size :: M) w' bs A' n' c' dec') (hgr : w.grownBy w' (blkOf A9)) (hat : blkOf A' = blkOf A9 ∨ blkOf A' = some w.heap.size) (hgt : g < tb) (htb : tb < bs) (hwe : we.heap.size ≤ bs) (hw0 : w0.heap.size ≤ tb) :
  ∃ M', DSt we w0 (w'.setCell ⟨tb, 9, none⟩ (.slice A' n' c')) g tb bs E M' A' n' c' A10 n10 c10 { D with dec := dec' } r ∧ (∀ b ∈ M', b ∈ M ∨ b = w.heap.size) ∧ (∀ b ∈ M, b ∈ M') := by
 have htl := h.hM tb h.ht
 have hk : Kp (blkOf A9).toList w w' := Kp.ofGrown hgr (by intro b hb; simp [hb])
 have hne : ∀ b, blkOf A10 = some b → blkOf A9 ≠ some b := by
  obtain ⟨Z, _, ho, _⟩ := h.o9
  exact Own.types h.o10 ho i_ne_m
 have hlt := h.o9.lt
 have hmA : ∀ b, b ∈ (blkOf A9).toList ↔ blkOf A9 = some b := by intro b; simp
 have htA : tb ∉ (blkOf A9).toList := by rw [hmA]; intro hb; have := (hlt _ hb).1; omega
 have hgA : g ∉ (blkOf A9).toList := by rw [hmA]; intro hb; have := (hlt _ hb).1; omega
 have hc : ∀ k, w'.cell? ⟨tb, k, none⟩ = w.cell? ⟨tb, k, none⟩ := fun k => hk.cell ⟨tb, k, none⟩ htl htA
 have hf : ∀ k, w'.frozen? ⟨tb, k, none⟩ = w.frozen? ⟨tb, k, none⟩ := fun k => hk.frozen ⟨tb, k, none⟩ htl htA
 have hx : Ext w0 w' := ext_of_grown h.ext hgr (fun k hk => by have := (hlt k hk).1; omega)
 have hks : Kp [tb] w' (w'.setCell ⟨tb, 9, none⟩ (.slice A' n' c')) := Kp.setCell _ _ _ _ (by simp)
 have hk2 : Kp (tb :: (blkOf A9).toList) w (w'.setCell ⟨tb, 9, none⟩ (.slice A' n' c')) := (hk.mono (fun b hb => .inl (by simp only [List.mem_cons]; exact .inr hb))).trans (hks.mono (fun b hb => .inl (by simp at hb; simp [hb])))
 obtain ⟨M', m1, m2, m3, m4, m5, m6⟩ : ∃ M' : List Nat, (∀ b ∈ M, b ∈ M') ∧ (∀ b ∈ M', b ∈ M ∨ w.heap.size ≤ b) ∧ (∀ b, blkOf A' = some b → b ∈ M') ∧ (∀ b ∈ M', b < w'.heap.size) ∧ (∀ b ∈ M', b ∈ M ∨ b = w.heap.size) ∧ (∀ b ∈ M', b ∈ w.heap.size :: M) := by
  rcases hat with hat | hat
  ·exact ⟨M, fun _ h => h, fun _ h => .inl h, fun b hb => h.h9 b (by rw [← hat]; exact hb), fun b hb => Nat.lt_of_lt_of_le (h.hM b hb) hk.size, fun _ h => .inl h, fun b hb => by simp [hb]⟩
  ·refine ⟨w.heap.size :: M, fun b hb => by simp [hb], fun b hb => ?_, fun b hb => ?_, fun b hb => ?_, fun b hb => ?_, fun _ h => h⟩
   ·simp at hb; rcases hb with rfl | hb
    ·exact .inr (Nat.le_refl _)
    ·exact .inl hb
   ·rw [hat] at hb; injection hb with hb; simp [hb]
   ·simp at hb; rcases hb with rfl | hb
    ·exact (hown.lt _ hat).2
    ·exact Nat.lt_of_lt_of_le (h.hM b hb) hk.size
   ·simp at hb; rcases hb with rfl | hb
    ·exact .inr rfl
    ·exact .inl hb
 refine ⟨M', ⟨h.src.kp hk2 (by simp only [List.mem_cons, not_or]; exact ⟨by omega, hgA⟩), hx.setCell_ hw0 _, h.kp.via hk2 (fun b hb => ?_), fun k k1 k2 => ?_, fun k => ?_, ?_, ?_, ?_, ?_, m1 g h.hg, m1 tb h.ht, m3, fun b hb => m1 b (h.h10 b hb), fun b hb => by simpa using m4 b hb, fun b hb => ⟨m1 b (h.hE b hb).1, (h.hE b hb).2⟩⟩, m5, m1⟩
 ·rw [List.mem_cons] at hb
  rcases hb with rfl | hb
  ·exact .inl (by simp)
  ·exact .inr (Nat.le_trans hwe (hlt b ((hmA b).1 hb)).1)
 ·rw [World.cell?_setCell_other _ _ _ _ (by intro e; injection e with _ e; exact k1 e.symm), hc k]
  exact h.oth k k1 k2
 ·rw [World.frozen?_setCell, hf k]
  exact h.frz k
 ·exact World.cell?_setCell_same _ _ _ ((hc 9).trans h.v9)
 ·rw [World.cell?_setCell_other _ _ _ _ (by intro e; injection e with _ e; cases e), hc 10]
  exact h.v10
 ·refine (hown.less m6).kp hks (fun b hb hm => ?_) (fun _ h => h) (fun _ h => .inl h) (fun b hb => ?_)
  ·simp at hm
   have := (hown.lt b hb).1
   omega
  ·simp at hb; subst hb; exact .inl (m1 b h.ht)
 ·refine Own.kp h.o10 hk2 (fun b hb hm => ?_)
  rw [List.mem_cons] at hm
  rcases hm with rfl | hm
  ·have := (Own.lt h.o10 b hb).1; omega
  ·exact hne b hb ((hmA b).1 hm)
end
theorem own_set_one {w : World} {bs p : Nat} {x : Int} (h : OwnI w bs (some ⟨p, 0, none⟩) 1 1 [x]) (y : Int) : OwnI (w.setCell ⟨p, 0, none⟩ (.int .i64 y)) bs (some ⟨p, 0, none⟩) 1 1 [y] := by
 refine ⟨rfl, .inr ?_⟩
 rcases h.2 with ⟨h', _⟩ | ⟨g, cap, cur, h', h1, h2, h3, h4, h5, h6⟩
 ·cases h'
 ·injection h' with h' _ hc
  injection h' with h'
  injection h' with h'
  subst h' hc
  refine ⟨p, 1, cur.setIfInBounds 0 (.int .i64 y), rfl, h1, ?_, h3, h4, by simpa using h5, ?_⟩
  ·unfold World.setCell
   simp only [Array.getElem?_modify, if_true, h2, Option.map_some]
   rfl
  ·have hs : cur.size = 1 := by simpa using h5
   obtain ⟨l, rfl⟩ : ∃ l, cur = ⟨l⟩ := ⟨cur.toList, rfl⟩
   simp at hs
   match l, hs with
   | [z], _ => rfl
theorem own_one_cell {w : World} {bs p : Nat} {x : Int} (h : OwnI w bs (some ⟨p, 0, none⟩) 1 1 [x]) : w.cell? ⟨p, 0, none⟩ = some (.int .i64 x) ∧ w.frozen? ⟨p, 0, none⟩ = false := by
 rcases h.2 with ⟨h', _⟩ | ⟨g, cap, cur, h', h1, h2, h3, h4, h5, h6⟩
 ·cases h'
 ·injection h' with h' _ hc
  injection h' with h'
  injection h' with h'
  subst h' hc
  refine ⟨?_, by simp [World.frozen?, h2]⟩
  obtain ⟨b, hb, hc⟩ := Own.cells_ h 0 (.int .i64 x) rfl
  injection hb with hb
  injection hb with hb
  subst hb
  exact hc
section
variable {we w0 w w' : World} {g tb bs n9 c9 n10 c10 : Nat} {E M : List Nat} {A9 A10 : Option Addr} {D : Decs} {r : List Int}
theorem DSt.tcell (h : DSt we w0 w g tb bs E M A9 n9 c9 A10 n10 c10 D r) {row : Option Nat} (hgr : w.grownBy w' row) (hr : row = blkOf A9 ∨ row = blkOf A10) (htb : tb < bs) (k : Nat) : w'.cell? ⟨tb, k, none⟩ = w.cell? ⟨tb, k, none⟩ ∧ w'.frozen? ⟨tb, k, none⟩ = false := by
 have hk : Kp row.toList w w' := Kp.ofGrown hgr (by intro b hb; simp [hb])
 have hn : tb ∉ row.toList := by
  simp only [Option.mem_toList]
  intro e
  rcases hr with rfl | rfl
  ·have := (h.o9.lt tb e).1; omega
  ·have := (Own.lt h.o10 tb e).1; omega
 exact ⟨hk.cell ⟨tb, k, none⟩ (h.hM tb h.ht) hn, (hk.frozen ⟨tb, k, none⟩ (h.hM tb h.ht) hn).trans (h.frz k)⟩
end
structure RSt (we w0 w : World) (g tb bs : Nat) (E M : List Nat) (A9 : Option Addr) (n9 c9 : Nat) (A10 : Option Addr) (n10 c10 : Nat) (D : Decs) (r : List Int) (mb : Nat) (lo : Int) (A : Option Addr) (n c : Nat) (to : List Int) : Prop where
 st : DSt we w0 w g tb bs E M A9 n9 c9 A10 n10 c10 D r
 m0 : w.cell? ⟨mb, 0, none⟩ = some (.int .i64 lo)
 m1 : w.cell? ⟨mb, 1, none⟩ = some (.slice A n c)
 fz : w.frozen? ⟨mb, 1, none⟩ = false
 own : OwnI w bs A n c to
 hmb : mb ∈ M
 bmb : bs ≤ mb
 hA : ∀ b, blkOf A = some b → b ∈ M
 d1 : blkOf A9 ≠ some mb
 d2 : blkOf A10 ≠ some mb
 d3 : ∀ b, blkOf A = some b → blkOf A10 ≠ some b
 d4 : blkOf A ≠ some mb
section
variable {we w0 w w' : World} {g tb bs n9 c9 n10 c10 mb n c : Nat} {E M M' N : List Nat} {A9 A10 A : Option Addr} {D : Decs} {r r' to : List Int} {lo x : Int} {p : Nat}
theorem RSt.new (h : DSt we w0 w g tb bs E M A9 n9 c9 A10 n10 c10 D r) (hgt : g < tb) (htb : tb < bs) (hbs : bs ≤ w.heap.size) (a lo : Int) (t1 : TypeId) :
  RSt we w0 ((w.alloc (.cells #[.int .i64 a] 3)).alloc (.cells #[.int .i64 lo, .slice (some ⟨w.heap.size, 0, none⟩) 1 1] t1)) g tb bs E ((w.heap.size + 1) :: w.heap.size :: M) A9 n9 c9 A10 n10 c10 D r (w.heap.size + 1) lo (some ⟨w.heap.size, 0, none⟩) 1 1 [a] := by
 have hx1 : Ext w (w.alloc (.cells #[.int .i64 a] 3)) := (Ext.refl _).alloc_ _
 have hx2 : Ext (w.alloc (.cells #[.int .i64 a] 3)) ((w.alloc (.cells #[.int .i64 a] 3)).alloc (.cells #[.int .i64 lo, .slice (some ⟨w.heap.size, 0, none⟩) 1 1] t1)) := (Ext.refl _).alloc_ _
 have hz : (w.alloc (.cells #[.int .i64 a] 3)).heap.size = w.heap.size + 1 := by simp
 have hown : OwnI (w.alloc (.cells #[.int .i64 a] 3)) bs (some ⟨w.heap.size, 0, none⟩) 1 1 [a] :=
  ⟨rfl, .inr ⟨w.heap.size, 1, #[.int .i64 a], rfl, hbs, heap_alloc_new w _, Nat.le_refl _, by simp [maxLen], rfl, rfl⟩⟩
 refine ⟨h.more (hx1.trans' hx2) (by omega) (fun b hb => by simp [hb]) (fun b hb => ?_) (fun b hb => ?_), ?_, ?_, ?_, Own.ext hown hx2, by simp, by omega, fun b hb => ?_, fun hb => ?_, fun hb => ?_, fun b hb hb2 => ?_, fun hb => ?_⟩
 ·simp only [List.mem_cons] at hb
  rcases hb with rfl | rfl | hb
  ·exact .inr (by omega)
  ·exact .inr (by omega)
  ·exact .inl hb
 ·simp only [List.mem_cons] at hb
  have hzz : ((w.alloc (.cells #[.int .i64 a] 3)).alloc (.cells #[.int .i64 lo, .slice (some ⟨w.heap.size, 0, none⟩) 1 1] t1)).heap.size = w.heap.size + 2 := by simp
  rw [hzz]
  rcases hb with rfl | rfl | hb
  ·omega
  ·omega
  ·have := h.hM b hb; omega
 ·rw [← hz]; exact World.cell?_alloc_new _ _ _ 0
 ·rw [← hz]; exact World.cell?_alloc_new _ _ _ 1
 ·rw [← hz]; simp
 ·simp only [blkOf, Option.map_some, Option.some.injEq] at hb; subst hb; simp
 ·have := (h.o9.lt _ hb).2; omega
 ·have := (Own.lt h.o10 _ hb).2; omega
 ·simp only [blkOf, Option.map_some, Option.some.injEq] at hb
  subst hb
  have := (Own.lt h.o10 _ hb2).2
  omega
 ·simp only [blkOf, Option.map_some, Option.some.injEq] at hb
  omega
theorem RSt.next (h : RSt we w0 w g tb bs E M A9 n9 c9 A10 n10 c10 D r mb lo A n c to) (hk : Kp [g] w w') (hs : Src w0 w' g r') (hb : Ext w0 w') (hgt : g < tb) (htb : tb < bs) : RSt we w0 w' g tb bs E M A9 n9 c9 A10 n10 c10 D r' mb lo A n c to := by
 have hm : mb ∉ [g] := by have := h.bmb; simp; omega
 have hml := h.st.hM mb h.hmb
 exact ⟨h.st.next hk hs hb hgt htb, (hk.cell ⟨mb, 0, none⟩ hml hm).trans h.m0, (hk.cell ⟨mb, 1, none⟩ hml hm).trans h.m1, (hk.frozen ⟨mb, 1, none⟩ hml hm).trans h.fz, Own.kp h.own hk (fun b hb => by have := (Own.lt h.own b hb).1; simp; omega), h.hmb, h.bmb, h.hA, h.d1, h.d2, h.d3, h.d4⟩
theorem RSt.ext_ (h : RSt we w0 w g tb bs E M A9 n9 c9 A10 n10 c10 D r mb lo A n c to) (hx : Ext w w') (hgt : g < tb) (htb : tb < bs) : RSt we w0 w' g tb bs E M A9 n9 c9 A10 n10 c10 D r mb lo A n c to :=
 h.next (Kp.ofExt hx) (h.st.src.kp (M := []) (Kp.ofExt hx) (by simp)) (h.st.ext.trans' hx) hgt htb
theorem RSt.mcell (h : RSt we w0 w g tb bs E M A9 n9 c9 A10 n10 c10 D r mb lo A n c to) (hgr : w.grownBy w' (blkOf A)) : w'.cell? ⟨mb, 1, none⟩ = some (.slice A n c) ∧ w'.frozen? ⟨mb, 1, none⟩ = false := by
 have hk : Kp (blkOf A).toList w w' := Kp.ofGrown hgr (by intro b hb; simp [hb])
 have hml := h.st.hM mb h.hmb
 have hmb : mb ∉ (blkOf A).toList := by simp; exact h.d4
 exact ⟨(hk.cell ⟨mb, 1, none⟩ hml hmb).trans h.m1, (hk.frozen ⟨mb, 1, none⟩ hml hmb).trans h.fz⟩
theorem RSt.app (h : RSt we w0 w g tb bs E M A9 n9 c9 A10 n10 c10 D r mb lo A n c to) {A' : Option Addr} {n' c' : Nat} {to' : List Int} (hown : OwnI w' bs A' n' c' to') (hgr : w.grownBy w' (blkOf A)) (hat : blkOf A' = blkOf A ∨ blkOf A' = some w.heap.size) (hgt : g < tb) (htb : tb < bs) (hwe : we.heap.size ≤ bs) (hw0 : w0.heap.size ≤ tb) :
  ∃ M', RSt we w0 (w'.setCell ⟨mb, 1, none⟩ (.slice A' n' c')) g tb bs E M' A9 n9 c9 A10 n10 c10 D r mb lo A' n' c' to' := by
 have hml := h.st.hM mb h.hmb
 have hbmb := h.bmb
 have hk : Kp (blkOf A).toList w w' := Kp.ofGrown hgr (by intro b hb; simp [hb])
 have hlt := Own.lt h.own
 have hmA : ∀ b, b ∈ (blkOf A).toList ↔ blkOf A = some b := by intro b; simp
 have hne9 : ∀ b, blkOf A = some b → blkOf A9 ≠ some b := by
  obtain ⟨Z, _, ho, _⟩ := h.st.o9
  exact Own.types h.own ho i_ne_m
 have hmbA : mb ∉ (blkOf A).toList := by rw [hmA]; exact h.d4
 have hgA : g ∉ (blkOf A).toList := by rw [hmA]; intro hb; have := (hlt _ hb).1; omega
 have hx : Ext w0 w' := ext_of_grown h.st.ext hgr (fun k hk => by have := (hlt k hk).1; omega)
 have hks : Kp [mb] w' (w'.setCell ⟨mb, 1, none⟩ (.slice A' n' c')) := Kp.setCell _ _ _ _ (by simp)
 have hk2 : Kp (mb :: (blkOf A).toList) w (w'.setCell ⟨mb, 1, none⟩ (.slice A' n' c')) := (hk.mono (fun b hb => .inl (by simp only [List.mem_cons]; exact .inr hb))).trans (hks.mono (fun b hb => .inl (by simp at hb; simp [hb])))
 have e1 : w'.cell? ⟨mb, 1, none⟩ = some (.slice A n c) := (hk.cell ⟨mb, 1, none⟩ hml hmbA).trans h.m1
 have ef : w'.frozen? ⟨mb, 1, none⟩ = false := (hk.frozen ⟨mb, 1, none⟩ hml hmbA).trans h.fz
 have hgrow : w.heap.size ≤ w'.heap.size := hk.size
 obtain ⟨M', m1, m2, m3, m4⟩ : ∃ M' : List Nat, (∀ b ∈ M, b ∈ M') ∧ (∀ b ∈ M', b ∈ M ∨ w.heap.size ≤ b) ∧ (∀ b, blkOf A' = some b → b ∈ M') ∧ (∀ b ∈ M', b < w'.heap.size) := by
  rcases hat with hat | hat
  ·exact ⟨M, fun _ h => h, fun _ h => .inl h, fun b hb => h.hA b (by rw [← hat]; exact hb), fun b hb => Nat.lt_of_lt_of_le (h.st.hM b hb) hk.size⟩
  ·refine ⟨w.heap.size :: M, fun b hb => by simp [hb], fun b hb => ?_, fun b hb => ?_, fun b hb => ?_⟩
   ·simp at hb; rcases hb with rfl | hb
    ·exact .inr (Nat.le_refl _)
    ·exact .inl hb
   ·rw [hat] at hb; injection hb with hb; simp [hb]
   ·simp at hb; rcases hb with rfl | hb
    ·exact (Own.lt hown _ hat).2
    ·exact Nat.lt_of_lt_of_le (h.st.hM b hb) hk.size
 have hblk : ∀ b, blkOf A' = some b → blkOf A = some b ∨ b = w.heap.size := fun b hb => by
  rcases hat with hat | hat
  ·exact .inl (by rw [← hat]; exact hb)
  ·rw [hat] at hb; injection hb with hb; exact .inr hb.symm
 refine ⟨M', ⟨h.st.step hk2 (h.st.src.kp hk2 (by simp only [List.mem_cons, not_or]; exact ⟨by omega, hgA⟩)) (hx.setCell_ (by show w0.heap.size ≤ mb; omega) _) (by simp only [List.mem_cons, not_or, hmA]; exact ⟨by omega, fun hb => by have := (hlt _ hb).1; omega⟩) m1 m2 (fun b hb => by simpa using m4 b hb) (fun b hb => ?_) (by omega), ?_, World.cell?_setCell_same _ _ _ e1, by rw [World.frozen?_setCell]; exact ef, Own.kp hown hks (fun b hb hm => ?_), m1 mb h.hmb, h.bmb, m3, h.d1, h.d2, fun b hb => ?_, fun hb => ?_⟩⟩
 ·right
  rw [List.mem_cons] at hb
  rcases hb with rfl | hb
  ·exact ⟨m1 _ h.hmb, by omega, h.d1, h.d2⟩
  ·have hb' := (hmA b).1 hb
   have := (hlt b hb').1
   exact ⟨m1 _ (h.hA b hb'), by omega, hne9 b hb', h.d3 b hb'⟩
 ·rw [World.cell?_setCell_other _ _ _ _ (by intro e; injection e with _ e; cases e)]
  exact (hk.cell ⟨mb, 0, none⟩ hml hmbA).trans h.m0
 ·simp at hm
  subst hm
  rcases hblk b hb with h' | h'
  ·exact h.d4 h'
  ·omega
 ·rcases hblk b hb with h' | h'
  ·exact h.d3 b h'
  ·intro h2
   have := (Own.lt h.st.o10 b h2).2
   omega
 ·rcases hblk mb hb with h' | h'
  ·exact h.d4 h'
  ·omega
theorem RSt.less_ (h : RSt we w0 w g tb bs E M A9 n9 c9 A10 n10 c10 D r mb lo A n c to) {p : Nat} (hp : blkOf A = some p) (hgt : g < tb) (htb : tb < bs) : DSt we w0 w g tb bs E (M.filter (· ≠ p)) A9 n9 c9 A10 n10 c10 D r := by
 have hlt := (Own.lt h.own p hp).1
 have hne9 : blkOf A9 ≠ some p := by
  obtain ⟨Z, _, ho, _⟩ := h.st.o9
  exact Own.types h.own ho i_ne_m p hp
 refine h.st.less (fun b hb => (List.mem_filter.1 hb).1) (List.mem_filter.2 ⟨h.st.hg, by simp; omega⟩) (List.mem_filter.2 ⟨h.st.ht, by simp; omega⟩) (fun b hb => List.mem_filter.2 ⟨h.st.h9 b hb, ?_⟩) (fun b hb => List.mem_filter.2 ⟨h.st.h10 b hb, ?_⟩) (fun b hb => List.mem_filter.2 ⟨(h.st.hE b hb).1, by have := (h.st.hE b hb).2; simp; omega⟩)
 ·simp only [ne_eq, decide_not, Bool.not_eq_eq_eq_not, Bool.not_true, decide_eq_false_iff_not]
  intro e
  exact hne9 (e ▸ hb)
 ·simp only [ne_eq, decide_not, Bool.not_eq_eq_eq_not, Bool.not_true, decide_eq_false_iff_not]
  intro e
  exact h.d3 p hp (e ▸ hb)
theorem RSt.seq (h : RSt we w0 w g tb bs E M A9 n9 c9 A10 n10 c10 D r mb lo A n c to) {p : Nat} (hp : blkOf A = some p) : IntS (hide (M.filter (· ≠ p)) w) ⟨A, n, c⟩ to := by
 have h1 := OwnI.ints h.own
 cases A with
 | none => cases hp
 | some q =>
  obtain ⟨g0, cap, cur, hq, _⟩ := h.own.2.resolve_left (fun h' => by injection h'.1 with h'; cases h')
  injection hq with hq
  injection hq with hq
  subst hq
  exact h1.hide_ (by simp only [blkOf, Option.map_some, Option.some.injEq] at hp; rw [List.mem_filter]; simp [hp])
theorem RSt.push10 (h : RSt we w0 w g tb bs E M A9 n9 c9 A10 n10 c10 D r mb lo A n c to) {A' : Option Addr} {n' c' : Nat} {exc' : List Int} (hown : OwnI w' bs A' n' c' exc') (hgr : w.grownBy w' (blkOf A10)) (hat : blkOf A' = blkOf A10 ∨ blkOf A' = some w.heap.size) (hgt : g < tb) (htb : tb < bs) (hwe : we.heap.size ≤ bs) (hw0 : w0.heap.size ≤ tb) :
  ∃ M', RSt we w0 (w'.setCell ⟨tb, 10, none⟩ (.slice A' n' c')) g tb bs E M' A9 n9 c9 A' n' c' { D with exc := exc' } r mb lo A n c to := by
 obtain ⟨M', h', hm1, hm2⟩ := h.st.push10 hown hgr hat hgt htb hwe hw0
 have hml := h.st.hM mb h.hmb
 have hbmb := h.bmb
 have hk : Kp (blkOf A10).toList w w' := Kp.ofGrown hgr (by intro b hb; simp [hb])
 have hks : Kp [tb] w' (w'.setCell ⟨tb, 10, none⟩ (.slice A' n' c')) := Kp.setCell _ _ _ _ (by simp)
 have hk2 : Kp (tb :: (blkOf A10).toList) w (w'.setCell ⟨tb, 10, none⟩ (.slice A' n' c')) := (hk.mono (fun b hb => .inl (by simp only [List.mem_cons]; exact .inr hb))).trans (hks.mono (fun b hb => .inl (by simp at hb; simp [hb])))
 have hmN : mb ∉ tb :: (blkOf A10).toList := by
  simp only [List.mem_cons, not_or, Option.mem_toList]
  exact ⟨by omega, h.d2⟩
 have hblk : ∀ b, blkOf A' = some b → blkOf A10 = some b ∨ b = w.heap.size := fun b hb => by
  rcases hat with hat | hat
  ·exact .inl (by rw [← hat]; exact hb)
  ·rw [hat] at hb; injection hb with hb; exact .inr hb.symm
 refine ⟨M', h', (hk2.cell ⟨mb, 0, none⟩ hml hmN).trans h.m0, (hk2.cell ⟨mb, 1, none⟩ hml hmN).trans h.m1, (hk2.frozen ⟨mb, 1, none⟩ hml hmN).trans h.fz, Own.kp h.own hk2 (fun b hb => ?_), hm2 mb h.hmb, h.bmb, fun b hb => hm2 b (h.hA b hb), h.d1, fun hb => ?_, fun b hb hb2 => ?_, h.d4⟩
 ·simp only [List.mem_cons, not_or, Option.mem_toList]
  have := (Own.lt h.own b hb).1
  exact ⟨by omega, h.d3 b hb⟩
 ·rcases hblk mb hb with h1 | h1
  ·exact h.d2 h1
  ·omega
 ·rcases hblk b hb2 with h1 | h1
  ·exact h.d3 b hb h1
  ·have := (Own.lt h.own b hb).2; omega
theorem RSt.push9 (h : RSt we w0 w g tb bs E M A9 n9 c9 A10 n10 c10 D r mb lo A n c to) {A' : Option Addr} {n' c' : Nat} {dec' : List Mp} {p : Nat} (hp : blkOf A = some p) (hown : OwnMp (w.heap.size :: M.filter (· ≠ p)) w' bs A' n' c' dec') (hgr : w.grownBy w' (blkOf A9)) (hat : blkOf A' = blkOf A9 ∨ blkOf A' = some w.heap.size) (hgt : g < tb) (htb : tb < bs) (hwe : we.heap.size ≤ bs) (hw0 : w0.heap.size ≤ tb) :
  ∃ M', DSt we w0 (w'.setCell ⟨tb, 9, none⟩ (.slice A' n' c')) g tb bs E M' A' n' c' A10 n10 c10 { D with dec := dec' } r := by
 have hl : DSt we w0 w g tb bs E (M.filter (· ≠ p)) A9 n9 c9 A10 n10 c10 D r := h.less_ hp hgt htb
 obtain ⟨M', h', _⟩ := hl.push9 hown hgr hat hgt htb hwe hw0
 exact ⟨M', h'⟩
theorem RSt.put (h : RSt we w0 w g tb bs E M A9 n9 c9 A10 n10 c10 D r mb lo (some ⟨p, 0, none⟩) 1 1 [x]) (hgt : g < tb) (htb : tb < bs) (hwe : we.heap.size ≤ bs) (hw0 : w0.heap.size ≤ tb) (y : Int) :
  RSt we w0 (w.setCell ⟨p, 0, none⟩ (.int .i64 y)) g tb bs E M A9 n9 c9 A10 n10 c10 D r mb lo (some ⟨p, 0, none⟩) 1 1 [y] := by
 have hlt := Own.lt h.own p rfl
 have hk : Kp [p] w (w.setCell ⟨p, 0, none⟩ (.int .i64 y)) := Kp.setCell _ _ _ _ (by simp)
 have hne9 : blkOf A9 ≠ some p := by
  obtain ⟨Z, _, ho, _⟩ := h.st.o9
  exact Own.types h.own ho i_ne_m p rfl
 have hmp : mb ≠ p := fun e => h.d4 (by rw [e]; rfl)
 have hml := h.st.hM mb h.hmb
 refine ⟨h.st.step hk (h.st.src.kp hk (by simp; omega)) (h.st.ext.setCell_ (by show w0.heap.size ≤ p; omega) _) (by simp; omega) (fun _ h => h) (fun _ h => .inl h) (fun b hb => by simpa using h.st.hM b hb) (fun b hb => ?_) (by omega), (hk.cell ⟨mb, 0, none⟩ hml (by simpa using hmp)).trans h.m0, (hk.cell ⟨mb, 1, none⟩ hml (by simpa using hmp)).trans h.m1, (hk.frozen ⟨mb, 1, none⟩ hml (by simpa using hmp)).trans h.fz, ?_, h.hmb, h.bmb, h.hA, h.d1, h.d2, h.d3, h.d4⟩
 ·simp at hb
  subst hb
  exact .inr ⟨h.hA _ rfl, by omega, hne9, h.d3 _ rfl⟩
 ·exact own_set_one h.own y
end
end Go.Proofs.YtbdabjhankgcmaaGreatDoor
