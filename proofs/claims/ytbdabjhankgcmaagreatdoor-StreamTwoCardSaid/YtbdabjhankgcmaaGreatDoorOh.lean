/- keep.Other: its tools: rows of mappings appended, tables at the end. -/
import Derived.Test.YtbdabjhankgcmaaGreatDoorGo
import Derived.Test.YtbdabjhankgcmaaGreatDoorGh
namespace Go.Proofs.YtbdabjhankgcmaaGreatDoor
open Go.RowKit
theorem mpCells_app2 : ∀ (L : List Mp) (Z : List SV) (L2 : List Mp) (Z2 : List SV), L.length = Z.length → mpCells (L ++ L2) (Z ++ Z2) = mpCells L Z ++ mpCells L2 Z2
 | [], [], _, _, _ => rfl
 | m :: L, s :: Z, L2, Z2, h => by simp only [List.cons_append, mpCells, mpCells_app2 L Z L2 Z2 (by simpa using h)]
 | [], _ :: _, _, _, h => by simp at h
 | _ :: _, [], _, _, h => by simp at h
theorem MapS.rows {w : World} {A : Option Addr} {n c : Nat} {L : List Mp} (h : MapS w ⟨A, n, c⟩ L) :
  ∃ Z, L.length = Z.length ∧ (∀ j u, (mpCells L Z)[j]? = some u → ∃ b o, A = some ⟨b, o, none⟩ ∧ w.cell? ⟨b, o + j, none⟩ = some u) ∧ ∀ (i : Nat) (m : Mp) (s : SV), L[i]? = some m → Z[i]? = some s → IntS w s m.to := by
 have key : ∀ k, k ≤ L.length → ∃ Z : List SV, Z.length = k ∧ ∀ (i : Nat) (m : Mp), i < k → L[i]? = some m → ∃ s : SV, Z[i]? = some s ∧ IntS w s m.to ∧ ∃ b o, A = some ⟨b, o, none⟩ ∧ w.cell? ⟨b, o + i * 2, none⟩ = some (.int .i64 m.lo) ∧ w.cell? ⟨b, o + i * 2 + 1, none⟩ = some (.slice s.a s.n s.c) := by
  intro k
  induction k with
  | zero => intro _; exact ⟨[], rfl, fun i m hi => by omega⟩
  | succ k ih =>
   intro hk
   obtain ⟨Z, hz, hZ⟩ := ih (by omega)
   obtain ⟨b, o, za, zn, zc, ha, h0, h1, h2⟩ := h.2 k L[k] (List.getElem?_eq_getElem (by omega))
   refine ⟨Z ++ [⟨za, zn, zc⟩], by simp [hz], fun i m hi hm => ?_⟩
   by_cases hik : i < k
   ·obtain ⟨s, hs, h3⟩ := hZ i m hik hm
    exact ⟨s, by rw [List.getElem?_append_left (by omega)]; exact hs, h3⟩
   ·obtain rfl : i = k := by omega
    rw [List.getElem?_eq_getElem (by omega)] at hm
    injection hm with hm
    subst hm
    exact ⟨⟨za, zn, zc⟩, by rw [List.getElem?_append_right (by omega)]; simp [hz], h2, b, o, ha, h0, h1⟩
 obtain ⟨Z, hz, hZ⟩ := key L.length (Nat.le_refl _)
 refine ⟨Z, hz.symm, fun j u hu => ?_, fun i m s hm hs => ?_⟩
 ·obtain ⟨i, m, s, hm, hs, hor⟩ := mpCells_inv L Z j u hu
  obtain ⟨s', hs', _, b, o, ha, h0, h1⟩ := hZ i m (List.getElem?_eq_some_iff.1 hm).1 hm
  rw [hs] at hs'
  injection hs' with hs'
  subst hs'
  refine ⟨b, o, ha, ?_⟩
  rcases hor with ⟨rfl, rfl⟩ | ⟨rfl, rfl⟩
  ·exact h0
  ·exact h1
 ·obtain ⟨s', hs', h2, _⟩ := hZ i m (List.getElem?_eq_some_iff.1 hm).1 hm
  rw [hs] at hs'
  injection hs' with hs'
  subst hs'
  exact h2
theorem append_mps {M : List Nat} {w : World} {base n c : Nat} {A : Option Addr} {L : List Mp} (hown : OwnMp M w base A n c L) {A2 : Option Addr} {m c2 : Nat} {L2 : List Mp} {Z2 : List SV} (hlz2 : L2.length = Z2.length) (hm : L2.length = m)
  (hc : ∀ j u, (mpCells L2 Z2)[j]? = some u → ∃ b o, A2 = some ⟨b, o, none⟩ ∧ w.cell? ⟨b, o + j, none⟩ = some u) (ht2 : ∀ (i : Nat) (x : Mp) (s : SV), L2[i]? = some x → Z2[i]? = some s → IntS (hide M w) s x.to)
  (hA : ∀ b, blkOf A = some b → b ∈ M) (hb : n + m ≤ 1099511627776) (hbase : base ≤ w.heap.size) :
  ∃ A' c' w', (∀ ty, (Builtin.append_ #[24, 24] ty #[.slice A n c, .slice A2 m c2]).run Tryz.prog w = .ok (.slice A' (n + m) c') w') ∧ OwnMp (w.heap.size :: M) w' base A' (n + m) c' (L ++ L2) ∧ w.grownBy w' (blkOf A) ∧ (blkOf A' = blkOf A ∨ blkOf A' = some w.heap.size) := by
 obtain ⟨Z, hlz, hown, ht⟩ := hown
 obtain ⟨A', c', w', h3, h4, h5, h6⟩ := append_gen Tryz.underlying24 infoMap rfl (by omega) hown A2 m c2 (mpCells L2 Z2) (by rw [mpCells_len L2 Z2 hlz2, hm]) hc (mpCells_one L2 Z2) (by simp only [maxLen]; omega) (by omega) hbase
 have hk : Kp M w w' := Kp.ofGrown h5 hA
 have hkeep : ∀ {s : SV} {l : List Int}, IntS (hide M w) s l → IntS (hide (w.heap.size :: M) w') s l := fun h => h.keep (hide_keep hk (fun b hb => by simp [hb]) (fun b hb => by
  rw [List.mem_cons] at hb
  rcases hb with rfl | hb
  ·exact .inr (Nat.le_refl _)
  ·exact .inl hb))
 refine ⟨A', c', w', h3, ⟨Z ++ Z2, by simp [hlz, hlz2], ?_, fun i x s hx hs => ?_⟩, h5, h6⟩
 ·rw [mpCells_app2 L Z L2 Z2 hlz]; exact h4
 ·by_cases hi : i < L.length
  ·rw [List.getElem?_append_left hi] at hx
   rw [List.getElem?_append_left (by omega)] at hs
   exact hkeep (ht i x s hx hs)
  ·rw [List.getElem?_append_right (by omega)] at hx
   rw [List.getElem?_append_right (by omega), ← hlz] at hs
   exact hkeep (ht2 _ x s hx hs)
theorem own_hide {M : List Nat} {A : Option Addr} (hat : blkOf A = none ∨ ∃ k ∈ M, blkOf A = some k) : ∀ b, blkOf A = some b → b ∈ M := by
 intro b hb
 rcases hat with h1 | ⟨k, hk, h1⟩
 ·rw [h1] at hb; cases hb
 ·rw [h1] at hb; injection hb with hb; subst hb; exact hk
section
variable {ops : Array Oper} {rest : List Oper} {o : Oper} {a : Act} {w : World} {Q : Exit → Act → World → Prop}
theorem wpList_append_spans (hgd : o.guard = none) (s x : Operand)
  (ho : o.op = .call { callee := .builtin .append, args := #[s, x], argTypes := #[23, 23] }) (base : Nat) {A : Option Addr} {n c : Nat} {l : List Sp} (hs : a.eval s = .slice A n c) (hown : OwnSp w base A n c l)
  {A2 : Option Addr} {m c2 : Nat} {l2 : List Sp} (hx : a.eval x = .slice A2 m c2) (h2 : SpanS w ⟨A2, m, c2⟩ l2) (hb : n + m ≤ 1099511627776) (hbase : base ≤ w.heap.size)
  (h : ∀ A' c' w', OwnSp w' base A' (n + m) c' (l ++ l2) → w.grownBy w' (blkOf A) → (blkOf A' = blkOf A ∨ blkOf A' = some w.heap.size) → wpList Tryz.prog ops Q rest (a.put o.dst (.slice A' (n + m) c')) w') : wpList Tryz.prog ops Q (o :: rest) a w := by
 obtain ⟨A', c', w', hrun, h4, h5, h6⟩ := append_spans hown h2 hb hbase
 exact wpList_run_append hgd s x _ ho _ _ hs hx _ _ hrun (h A' c' w' h4 h5 h6)
theorem wpList_append_ints (hgd : o.guard = none) (s x : Operand)
  (ho : o.op = .call { callee := .builtin .append, args := #[s, x], argTypes := #[22, 22] }) (base : Nat) {A : Option Addr} {n c : Nat} {l : List Int} (hs : a.eval s = .slice A n c) (hown : OwnI w base A n c l)
  {A2 : Option Addr} {m c2 : Nat} {l2 : List Int} (hx : a.eval x = .slice A2 m c2) (h2 : IntS w ⟨A2, m, c2⟩ l2) (hb : n + m ≤ 1099511627776) (hbase : base ≤ w.heap.size)
  (h : ∀ A' c' w', OwnI w' base A' (n + m) c' (l ++ l2) → w.grownBy w' (blkOf A) → (blkOf A' = blkOf A ∨ blkOf A' = some w.heap.size) → wpList Tryz.prog ops Q rest (a.put o.dst (.slice A' (n + m) c')) w') : wpList Tryz.prog ops Q (o :: rest) a w := by
 obtain ⟨A', c', w', hrun, h4, h5, h6⟩ := append_ints hown h2 hb hbase
 exact wpList_run_append hgd s x _ ho _ _ hs hx _ _ hrun (h A' c' w' h4 h5 h6)
theorem wpList_append_mps (hgd : o.guard = none) (s x : Operand)
  (ho : o.op = .call { callee := .builtin .append, args := #[s, x], argTypes := #[24, 24] }) (M : List Nat) (base : Nat) {A : Option Addr} {n c : Nat} {L : List Mp} (hs : a.eval s = .slice A n c) (hown : OwnMp M w base A n c L)
  {A2 : Option Addr} {m c2 : Nat} {L2 : List Mp} {Z2 : List SV} (hx : a.eval x = .slice A2 m c2) (hlz2 : L2.length = Z2.length) (hm : L2.length = m)
  (hc : ∀ j u, (mpCells L2 Z2)[j]? = some u → ∃ b o, A2 = some ⟨b, o, none⟩ ∧ w.cell? ⟨b, o + j, none⟩ = some u) (ht2 : ∀ (i : Nat) (x : Mp) (s : SV), L2[i]? = some x → Z2[i]? = some s → IntS (hide M w) s x.to)
  (hA : ∀ b, blkOf A = some b → b ∈ M) (hb : n + m ≤ 1099511627776) (hbase : base ≤ w.heap.size)
  (h : ∀ A' c' w', OwnMp (w.heap.size :: M) w' base A' (n + m) c' (L ++ L2) → w.grownBy w' (blkOf A) → (blkOf A' = blkOf A ∨ blkOf A' = some w.heap.size) → wpList Tryz.prog ops Q rest (a.put o.dst (.slice A' (n + m) c')) w') : wpList Tryz.prog ops Q (o :: rest) a w := by
 obtain ⟨A', c', w', hrun, h4, h5, h6⟩ := append_mps hown hlz2 hm hc ht2 hA hb hbase
 exact wpList_run_append hgd s x _ ho _ _ hs hx _ _ hrun (h A' c' w' h4 h5 h6)
end
theorem TblS.apart {w w' : World} {rb : Nat} {t : TV} {T : Tbl} (h : TblS w t T) (hk : Kp [rb] w w') (hr : ∀ j x, w.cell? ⟨rb, j, none⟩ ≠ some (.int .i64 x)) (hg : Glob w') : TblS w' t T :=
 ⟨h.cat.apart hk hr, h.cls.apart hk hr, h.joi.apart hk hr, h.bid.apart hk hr, h.scr.apart hk hr, h.sta.apart hk hr, h.ign.apart hk hr, MapS.apart h.ext hk hr, h.mps.apart hk hr, h.dec.apart hk hr, h.exc.apart hk hr, h.pro.apart hk hr, hg⟩
theorem slices_no_int (t : TV) : ∀ (j : Nat) (x : Int), t.v.cells[j]? ≠ some (.int .i64 x) := by
 intro j x h
 match j, h with
 | 0, h | 1, h | 2, h | 3, h | 4, h | 5, h | 6, h | 7, h | 8, h | 9, h | 10, h | 11, h => injection h with h; cases h
 | j + 12, h => simp [Value.cells] at h
theorem oth_set {w w5 : World} {X f : Nat} {t t' : TV} {T' : Tbl} {v : Value} (hX : ∀ k : Nat, w5.cell? ⟨X, k, none⟩ = t.v.cells[k]?) (hw : Ext w w5) (hx : w.heap.size ≤ X) (hg : Glob w) (hT : TblS w5 t' T')
  (hv : t.v.cells[f]?.isSome = true) (hf : t'.v.cells[f]? = some v) (ho : ∀ k : Nat, k ≠ f → t'.v.cells[k]? = t.v.cells[k]?) :
  (∀ k : Nat, (w5.setCell ⟨X, f, none⟩ v).cell? ⟨X, k, none⟩ = t'.v.cells[k]?) ∧ TblS (w5.setCell ⟨X, f, none⟩ v) t' T' ∧ Ext w (w5.setCell ⟨X, f, none⟩ v) := by
 have h1 : Ext w (w5.setCell ⟨X, f, none⟩ v) := hw.setCell_ hx _
 refine ⟨fun k => ?_, hT.apart (Kp.setCell _ _ _ _ (by simp)) (fun j x h => slices_no_int t j x ((hX j).symm.trans h)) (hg.ext h1), h1⟩
 by_cases hk : k = f
 ·subst hk
  obtain ⟨u, hu⟩ := Option.isSome_iff_exists.1 hv
  rw [hf]
  exact World.cell?_setCell_same _ _ _ ((hX k).trans hu)
 ·rw [World.cell?_setCell_other _ _ _ _ (by intro e; injection e with _ e; exact hk e.symm), hX k, ho k hk]
theorem oth_fin {w w6 : World} {R : Nat} {t' : TV} {T' : Tbl} (hR : w6.heap[R]? = some (.cells nil12 26 (0, 0))) (hw : Ext w w6) (hx : w.heap.size ≤ R) (hg : Glob w) (hT : TblS w6 t' T') :
  TblS (w6.setRow R t'.v.cells) t' T' ∧ Ext w (w6.setRow R t'.v.cells) := by
 have hk := kp_setRow w6 R t'.v.cells
 have hfin : Ext w (w6.setRow R t'.v.cells) := ⟨hw.b.os, hw.b.tape, hw.b.output, Nat.le_trans hw.b.size hk.size, fun k hk' => (hk.block k (Nat.lt_of_lt_of_le hk' hw.b.size) (by simp; omega)).trans (hw.b.block k hk')⟩
 refine ⟨hT.apart hk (fun j x hc => ?_) (hg.ext hfin), hfin⟩
 rw [cell_of_row w6 _ j _ _ _ hR] at hc
 match j, hc with
 | 0, hc | 1, hc | 2, hc | 3, hc | 4, hc | 5, hc | 6, hc | 7, hc | 8, hc | 9, hc | 10, hc | 11, hc => injection hc with hc; cases hc
 | j + 12, hc => simp [nil12] at hc
theorem tv_range {w : World} {tb : Nat} {t : TV} (h : ∀ k : Nat, w.cell? ⟨tb, k, none⟩ = t.v.cells[k]?) : w.rangeAt tb 0 [.slice t.s0.a t.s0.n t.s0.c, .slice t.s1.a t.s1.n t.s1.c, .slice t.s2.a t.s2.n t.s2.c, .slice t.s3.a t.s3.n t.s3.c, .slice t.s4.a t.s4.n t.s4.c, .slice t.s5.a t.s5.n t.s5.c, .slice t.s6.a t.s6.n t.s6.c, .slice t.s7.a t.s7.n t.s7.c, .slice t.s8.a t.s8.n t.s8.c, .slice t.s9.a t.s9.n t.s9.c, .slice t.s10.a t.s10.n t.s10.c, .slice t.s11.a t.s11.n t.s11.c] := by
 intro j v hj
 rw [Nat.zero_add, h j, ← hj]
 match j with
 | 0 | 1 | 2 | 3 | 4 | 5 | 6 | 7 | 8 | 9 | 10 | 11 => rfl
 | j + 12 => simp [Value.cells]
theorem lit1 {w : World} {q : Nat} {lo : Int} {s : SV} (h0 : w.cell? ⟨q, 0, none⟩ = some (.int .i64 lo)) (h1 : w.cell? ⟨q, 1, none⟩ = some (.slice s.a s.n s.c)) (tw : List Int) :
  ∀ j u, (mpCells [⟨lo, tw⟩] [s])[j]? = some u → ∃ b o, (some ⟨q, 0, none⟩ : Option Addr) = some ⟨b, o, none⟩ ∧ w.cell? ⟨b, o + j, none⟩ = some u := by
 intro j u hu
 refine ⟨q, 0, rfl, ?_⟩
 rw [Nat.zero_add]
 match j, hu with
 | 0, hu => simp [mpCells] at hu; subst hu; exact h0
 | 1, hu => simp [mpCells] at hu; subst hu; exact h1
 | j + 2, hu => simp [mpCells] at hu
theorem lit2 {w : World} {q : Nat} {lo lo2 : Int} {s s2 : SV} (h0 : w.cell? ⟨q, 0, none⟩ = some (.int .i64 lo)) (h1 : w.cell? ⟨q, 1, none⟩ = some (.slice s.a s.n s.c)) (h2 : w.cell? ⟨q, 2, none⟩ = some (.int .i64 lo2)) (h3 : w.cell? ⟨q, 3, none⟩ = some (.slice s2.a s2.n s2.c)) (tw tw2 : List Int) :
  ∀ j u, (mpCells [⟨lo, tw⟩, ⟨lo2, tw2⟩] [s, s2])[j]? = some u → ∃ b o, (some ⟨q, 0, none⟩ : Option Addr) = some ⟨b, o, none⟩ ∧ w.cell? ⟨b, o + j, none⟩ = some u := by
 intro j u hu
 refine ⟨q, 0, rfl, ?_⟩
 rw [Nat.zero_add]
 match j, hu with
 | 0, hu => simp [mpCells] at hu; subst hu; exact h0
 | 1, hu => simp [mpCells] at hu; subst hu; exact h1
 | 2, hu => simp [mpCells] at hu; subst hu; exact h2
 | 3, hu => simp [mpCells] at hu; subst hu; exact h3
 | j + 4, hu => simp [mpCells] at hu
theorem to1 {M : List Nat} {w : World} {s : SV} {lo : Int} {tw : List Int} (h : IntS (hide M w) s tw) : ∀ (i : Nat) (x : Mp) (s' : SV), ([⟨lo, tw⟩] : List Mp)[i]? = some x → ([s] : List SV)[i]? = some s' → IntS (hide M w) s' x.to := by
 intro i x s' h1 h2
 match i, h1, h2 with
 | 0, h1, h2 => simp at h1 h2; subst h1 h2; exact h
 | i + 1, h1, h2 => simp at h1
theorem to2 {M : List Nat} {w : World} {s s2 : SV} {lo lo2 : Int} {tw tw2 : List Int} (h : IntS (hide M w) s tw) (h2 : IntS (hide M w) s2 tw2) : ∀ (i : Nat) (x : Mp) (s' : SV), ([⟨lo, tw⟩, ⟨lo2, tw2⟩] : List Mp)[i]? = some x → ([s, s2] : List SV)[i]? = some s' → IntS (hide M w) s' x.to := by
 intro i x s' h1 h3
 match i, h1, h3 with
 | 0, h1, h3 => simp at h1 h3; subst h1 h3; exact h
 | 1, h1, h3 => simp at h1 h3; subst h1 h3; exact h2
 | i + 2, h1, h3 => simp at h1
section
variable {ops : Array Oper} {rest : List Oper} {o : Oper} {a : Act} {w : World} {Q : Exit → Act → World → Prop}
theorem wpList_copy_spans (hgd : o.guard = none) (s x : Operand)
  (ho : o.op = .call { callee := .builtin .append, args := #[s, x], argTypes := #[23, 23] }) (base : Nat) (hs : a.eval s = .slice none 0 0)
  {A2 : Option Addr} {m c2 : Nat} {l2 : List Sp} (hx : a.eval x = .slice A2 m c2) (h2 : SpanS w ⟨A2, m, c2⟩ l2) (hb : m ≤ 1099511627776) (hbase : base ≤ w.heap.size)
  (h : ∀ A' c' w', OwnSp w' base A' m c' l2 → w.grownBy w' none → wpList Tryz.prog ops Q rest (a.put o.dst (.slice A' m c')) w') : wpList Tryz.prog ops Q (o :: rest) a w := by
 refine wpList_append_spans hgd s x ho base hs (show OwnSp _ _ none 0 0 [] from Own.nil_ _ _ _ _) hx h2 (by omega) hbase ?_
 intro A' c' w' h1 h2 h3
 simp only [Nat.zero_add, List.nil_append] at h1 ⊢
 exact h A' c' w' h1 h2
theorem wpList_copy_ints (hgd : o.guard = none) (s x : Operand)
  (ho : o.op = .call { callee := .builtin .append, args := #[s, x], argTypes := #[22, 22] }) (base : Nat) (hs : a.eval s = .slice none 0 0)
  {A2 : Option Addr} {m c2 : Nat} {l2 : List Int} (hx : a.eval x = .slice A2 m c2) (h2 : IntS w ⟨A2, m, c2⟩ l2) (hb : m ≤ 1099511627776) (hbase : base ≤ w.heap.size)
  (h : ∀ A' c' w', OwnI w' base A' m c' l2 → w.grownBy w' none → wpList Tryz.prog ops Q rest (a.put o.dst (.slice A' m c')) w') : wpList Tryz.prog ops Q (o :: rest) a w := by
 refine wpList_append_ints hgd s x ho base hs (show OwnI _ _ none 0 0 [] from Own.nil_ _ _ _ _) hx h2 (by omega) hbase ?_
 intro A' c' w' h1 h2 h3
 simp only [Nat.zero_add, List.nil_append] at h1 ⊢
 exact h A' c' w' h1 h2
theorem wpList_copy_mps (hgd : o.guard = none) (s x : Operand)
  (ho : o.op = .call { callee := .builtin .append, args := #[s, x], argTypes := #[24, 24] }) (base : Nat) (hs : a.eval s = .slice none 0 0)
  {A2 : Option Addr} {m c2 : Nat} {L2 : List Mp} (hx : a.eval x = .slice A2 m c2) (h2 : MapS w ⟨A2, m, c2⟩ L2) (hb : m ≤ 1099511627776) (hbase : base ≤ w.heap.size)
  (h : ∀ A' c' w', OwnMp (blkOf A').toList w' base A' m c' L2 → w.grownBy w' none → (∀ b ∈ (blkOf A').toList, b < w'.heap.size) → wpList Tryz.prog ops Q rest (a.put o.dst (.slice A' m c')) w') : wpList Tryz.prog ops Q (o :: rest) a w := by
 obtain ⟨Z, hz, hc, ht⟩ := h2.rows
 refine wpList_append_mps hgd s x ho [] base hs (OwnMp.nil_ _ _ _) hx hz h2.len.1.symm hc (fun i x s h1 h3 => (ht i x s h1 h3).sub fun p v hp => by rw [hide_nil]; exact hp) (fun b hb => by cases hb) (by omega) hbase ?_
 intro A' c' w' h1 h3 h4
 simp only [Nat.zero_add, List.nil_append] at h1 ⊢
 have h5 : ∀ b ∈ (blkOf A').toList, b < w'.heap.size := fun b hb => (h1.lt b (by simpa using hb)).2
 refine h A' c' w' (h1.less fun b hb => ?_) h3 h5
 rw [Option.mem_toList] at hb
 rcases h4 with h4 | h4
 ·rw [h4] at hb; cases hb
 ·rw [h4] at hb; injection hb with hb; simp [hb]
end
theorem IntS.take {w : World} {A : Option Addr} {n c m : Nat} {l : List Int} (h : IntS w ⟨A, n, c⟩ l) (hm : m ≤ l.length) : IntS w ⟨A, m, c⟩ (l.take m) := by
 obtain ⟨h1, h2, h3⟩ := h.len
 refine ⟨⟨by simp; omega, by simp; omega, h3⟩, fun i x hx => ?_⟩
 have hi : i < m := by have := (List.getElem?_eq_some_iff.1 hx).1; simp at this; omega
 rw [List.getElem?_take_of_lt hi] at hx
 exact h.2 i x hx
theorem IntS.drop1 {w : World} {b o n c : Nat} {x : Int} {l : List Int} (h : IntS w ⟨some ⟨b, o, none⟩, n, c⟩ (x :: l)) {n' c' o' : Nat} (hn : n = n' + 1) (hc : c = c' + 1) (ho : o' = o + 1) : IntS w ⟨some ⟨b, o', none⟩, n', c'⟩ l := by
 subst hn hc ho
 obtain ⟨h1, h2, h3⟩ := h.len
 simp only [List.length_cons] at h1 h2
 refine ⟨⟨by show n' = _; omega, by show _ ≤ c'; omega, by show c' ≤ _; simp only [maxLen]; omega⟩, fun i y hy => ?_⟩
 obtain ⟨b', o'', ha, hcell⟩ := h.2 (i + 1) y (by simpa using hy)
 injection ha with ha
 injection ha with e1 e2
 subst e1 e2
 exact ⟨b, o + 1, rfl, by rw [show o + 1 + i = o + (i + 1) from by omega]; exact hcell⟩
section
variable {ops : Array Oper} {rest : List Oper} {o : Oper} {a : Act} {W : World} {Q : Exit → Act → World → Prop}
theorem own_alloc {M : List Nat} {base n c : Nat} {A : Option Addr} {L : List Mp} (h : OwnMp M W base A n c L) (ob : Obj) : OwnMp M (W.alloc ob) base A n c L :=
 OwnMp.kp h (Kp.ofExt (M := []) ((Ext.refl _).alloc_ _)) (fun _ _ => by simp) (fun _ h => h) (fun _ h => .inl h) (fun _ h => by cases h)
theorem ints_alloc {M : List Nat} {s : SV} {l : List Int} (h : IntS (hide M W) s l) (ob : Obj) : IntS (hide M (W.alloc ob)) s l := h.keep (hide_keep' (Kp.ofExt ((Ext.refl _).alloc_ _)))
theorem wpList_append_lit1 (hgd : o.guard = none) (s x : Operand)
  (ho : o.op = .call { callee := .builtin .append, args := #[s, x], argTypes := #[24, 24] }) (M : List Nat) (base : Nat) {A : Option Addr} {n c q : Nat} {L : List Mp} (hs : a.eval s = .slice A n c)
  {lo : Int} {za : Option Addr} {zn zc : Nat} {ty : TypeId} (hx : a.eval x = .slice (some ⟨q, 0, none⟩) 1 1) (hq : q = W.heap.size) (hown : OwnMp M W base A n c L) {tw : List Int} (hz : IntS (hide M W) ⟨za, zn, zc⟩ tw)
  (hA : ∀ b, blkOf A = some b → b ∈ M) (hb : n + 1 ≤ 1099511627776) (hbase : base ≤ W.heap.size)
  (h : ∀ A' c' w' M' L', OwnMp M' w' base A' (n + 1) c' L' → (W.alloc (.cells #[.int .i64 lo, .slice za zn zc] ty)).grownBy w' (blkOf A) → wpList Tryz.prog ops Q rest (a.put o.dst (.slice A' (n + 1) c')) w') :
  wpList Tryz.prog ops Q (o :: rest) a (W.alloc (.cells #[.int .i64 lo, .slice za zn zc] ty)) := by
 subst hq
 exact wpList_append_mps hgd s x ho M base hs (own_alloc hown _) hx rfl rfl (lit1 (s := ⟨za, zn, zc⟩) (lo := lo) (World.cell?_alloc_new W _ ty 0) (World.cell?_alloc_new W _ ty 1) tw) (to1 (ints_alloc hz _)) hA hb (by simp; omega) (fun A' c' w' h1 h2 _ => h A' c' w' _ _ h1 h2)
theorem wpList_append_lit2 (hgd : o.guard = none) (s x : Operand)
  (ho : o.op = .call { callee := .builtin .append, args := #[s, x], argTypes := #[24, 24] }) (M : List Nat) (base : Nat) {A : Option Addr} {n c q : Nat} {L : List Mp} (hs : a.eval s = .slice A n c)
  {lo lo2 : Int} {za za2 : Option Addr} {zn zc zn2 zc2 : Nat} {ty : TypeId} (hx : a.eval x = .slice (some ⟨q, 0, none⟩) 2 2) (hq : q = W.heap.size) (hown : OwnMp M W base A n c L) {tw tw2 : List Int} (hz : IntS (hide M W) ⟨za, zn, zc⟩ tw) (hz2 : IntS (hide M W) ⟨za2, zn2, zc2⟩ tw2)
  (hA : ∀ b, blkOf A = some b → b ∈ M) (hb : n + 2 ≤ 1099511627776) (hbase : base ≤ W.heap.size)
  (h : ∀ A' c' w' M' L', OwnMp M' w' base A' (n + 2) c' L' → (W.alloc (.cells #[.int .i64 lo, .slice za zn zc, .int .i64 lo2, .slice za2 zn2 zc2] ty)).grownBy w' (blkOf A) → wpList Tryz.prog ops Q rest (a.put o.dst (.slice A' (n + 2) c')) w') :
  wpList Tryz.prog ops Q (o :: rest) a (W.alloc (.cells #[.int .i64 lo, .slice za zn zc, .int .i64 lo2, .slice za2 zn2 zc2] ty)) := by
 subst hq
 exact wpList_append_mps hgd s x ho M base hs (own_alloc hown _) hx rfl rfl (lit2 (s := ⟨za, zn, zc⟩) (s2 := ⟨za2, zn2, zc2⟩) (lo := lo) (lo2 := lo2) (World.cell?_alloc_new W _ ty 0) (World.cell?_alloc_new W _ ty 1) (World.cell?_alloc_new W _ ty 2) (World.cell?_alloc_new W _ ty 3) tw tw2) (to2 (ints_alloc hz _) (ints_alloc hz2 _)) hA hb (by simp; omega) (fun A' c' w' h1 h2 _ => h A' c' w' _ _ h1 h2)
end
theorem oth_pre {w : World} {t : TV} {T : Tbl} (ht : TblS w t T) : ∃ w3, w3 = (((w.alloc (.cells #[.slice t.s0.a t.s0.n t.s0.c, .slice t.s1.a t.s1.n t.s1.c, .slice t.s2.a t.s2.n t.s2.c, .slice t.s3.a t.s3.n t.s3.c, .slice t.s4.a t.s4.n t.s4.c, .slice t.s5.a t.s5.n t.s5.c, .slice t.s6.a t.s6.n t.s6.c, .slice t.s7.a t.s7.n t.s7.c, .slice t.s8.a t.s8.n t.s8.c, .slice t.s9.a t.s9.n t.s9.c, .slice t.s10.a t.s10.n t.s10.c, .slice t.s11.a t.s11.n t.s11.c] 26))).alloc (.cells #[.slice none 0 0, .slice none 0 0, .slice none 0 0, .slice none 0 0, .slice none 0 0, .slice none 0 0, .slice none 0 0, .slice none 0 0, .slice none 0 0, .slice none 0 0, .slice none 0 0, .slice none 0 0] 26)).alloc (.cells #[.slice t.s0.a t.s0.n t.s0.c, .slice t.s1.a t.s1.n t.s1.c, .slice t.s2.a t.s2.n t.s2.c, .slice t.s3.a t.s3.n t.s3.c, .slice t.s4.a t.s4.n t.s4.c, .slice t.s5.a t.s5.n t.s5.c, .slice t.s6.a t.s6.n t.s6.c, .slice t.s7.a t.s7.n t.s7.c, .slice t.s8.a t.s8.n t.s8.c, .slice t.s9.a t.s9.n t.s9.c, .slice t.s10.a t.s10.n t.s10.c, .slice t.s11.a t.s11.n t.s11.c] 26) ∧ w3.heap.size = w.heap.size + 3 ∧ Hid (Ext w w3) ∧ Hid (TblS w3 t T) ∧
  Hid (∀ w', Ext w3 w' → ∀ k : Nat, w'.cell? ⟨w.heap.size, k, none⟩ = t.v.cells[k]?) ∧ Hid (∀ w', Ext w3 w' → ∀ k : Nat, w'.cell? ⟨w.heap.size + 2, k, none⟩ = t.v.cells[k]?) ∧
  Hid (∀ w', Ext w3 w' → ∀ k : Nat, w'.frozen? ⟨w.heap.size + 2, k, none⟩ = false) ∧ Hid (∀ w', Ext w3 w' → w'.heap[w.heap.size + 1]? = some (.cells nil12 26 (0, 0))) := by
 obtain ⟨w3, hw3⟩ : ∃ w3, w3 = (((w.alloc (.cells #[.slice t.s0.a t.s0.n t.s0.c, .slice t.s1.a t.s1.n t.s1.c, .slice t.s2.a t.s2.n t.s2.c, .slice t.s3.a t.s3.n t.s3.c, .slice t.s4.a t.s4.n t.s4.c, .slice t.s5.a t.s5.n t.s5.c, .slice t.s6.a t.s6.n t.s6.c, .slice t.s7.a t.s7.n t.s7.c, .slice t.s8.a t.s8.n t.s8.c, .slice t.s9.a t.s9.n t.s9.c, .slice t.s10.a t.s10.n t.s10.c, .slice t.s11.a t.s11.n t.s11.c] 26))).alloc (.cells #[.slice none 0 0, .slice none 0 0, .slice none 0 0, .slice none 0 0, .slice none 0 0, .slice none 0 0, .slice none 0 0, .slice none 0 0, .slice none 0 0, .slice none 0 0, .slice none 0 0, .slice none 0 0] 26)).alloc (.cells #[.slice t.s0.a t.s0.n t.s0.c, .slice t.s1.a t.s1.n t.s1.c, .slice t.s2.a t.s2.n t.s2.c, .slice t.s3.a t.s3.n t.s3.c, .slice t.s4.a t.s4.n t.s4.c, .slice t.s5.a t.s5.n t.s5.c, .slice t.s6.a t.s6.n t.s6.c, .slice t.s7.a t.s7.n t.s7.c, .slice t.s8.a t.s8.n t.s8.c, .slice t.s9.a t.s9.n t.s9.c, .slice t.s10.a t.s10.n t.s10.c, .slice t.s11.a t.s11.n t.s11.c] 26) := ⟨_, rfl⟩
 have hx12 : Ext w (((w.alloc (.cells #[.slice t.s0.a t.s0.n t.s0.c, .slice t.s1.a t.s1.n t.s1.c, .slice t.s2.a t.s2.n t.s2.c, .slice t.s3.a t.s3.n t.s3.c, .slice t.s4.a t.s4.n t.s4.c, .slice t.s5.a t.s5.n t.s5.c, .slice t.s6.a t.s6.n t.s6.c, .slice t.s7.a t.s7.n t.s7.c, .slice t.s8.a t.s8.n t.s8.c, .slice t.s9.a t.s9.n t.s9.c, .slice t.s10.a t.s10.n t.s10.c, .slice t.s11.a t.s11.n t.s11.c] 26))).alloc (.cells #[.slice none 0 0, .slice none 0 0, .slice none 0 0, .slice none 0 0, .slice none 0 0, .slice none 0 0, .slice none 0 0, .slice none 0 0, .slice none 0 0, .slice none 0 0, .slice none 0 0, .slice none 0 0] 26)) := ((Ext.refl _).alloc_ _).alloc_ _
 have hx13 : Ext (w.alloc (.cells #[.slice t.s0.a t.s0.n t.s0.c, .slice t.s1.a t.s1.n t.s1.c, .slice t.s2.a t.s2.n t.s2.c, .slice t.s3.a t.s3.n t.s3.c, .slice t.s4.a t.s4.n t.s4.c, .slice t.s5.a t.s5.n t.s5.c, .slice t.s6.a t.s6.n t.s6.c, .slice t.s7.a t.s7.n t.s7.c, .slice t.s8.a t.s8.n t.s8.c, .slice t.s9.a t.s9.n t.s9.c, .slice t.s10.a t.s10.n t.s10.c, .slice t.s11.a t.s11.n t.s11.c] 26)) w3 := by rw [hw3]; exact ((Ext.refl _).alloc_ _).alloc_ _
 have hx23 : Ext (((w.alloc (.cells #[.slice t.s0.a t.s0.n t.s0.c, .slice t.s1.a t.s1.n t.s1.c, .slice t.s2.a t.s2.n t.s2.c, .slice t.s3.a t.s3.n t.s3.c, .slice t.s4.a t.s4.n t.s4.c, .slice t.s5.a t.s5.n t.s5.c, .slice t.s6.a t.s6.n t.s6.c, .slice t.s7.a t.s7.n t.s7.c, .slice t.s8.a t.s8.n t.s8.c, .slice t.s9.a t.s9.n t.s9.c, .slice t.s10.a t.s10.n t.s10.c, .slice t.s11.a t.s11.n t.s11.c] 26))).alloc (.cells #[.slice none 0 0, .slice none 0 0, .slice none 0 0, .slice none 0 0, .slice none 0 0, .slice none 0 0, .slice none 0 0, .slice none 0 0, .slice none 0 0, .slice none 0 0, .slice none 0 0, .slice none 0 0] 26)) w3 := by rw [hw3]; exact (Ext.refl _).alloc_ _
 have z2 : (((w.alloc (.cells #[.slice t.s0.a t.s0.n t.s0.c, .slice t.s1.a t.s1.n t.s1.c, .slice t.s2.a t.s2.n t.s2.c, .slice t.s3.a t.s3.n t.s3.c, .slice t.s4.a t.s4.n t.s4.c, .slice t.s5.a t.s5.n t.s5.c, .slice t.s6.a t.s6.n t.s6.c, .slice t.s7.a t.s7.n t.s7.c, .slice t.s8.a t.s8.n t.s8.c, .slice t.s9.a t.s9.n t.s9.c, .slice t.s10.a t.s10.n t.s10.c, .slice t.s11.a t.s11.n t.s11.c] 26))).alloc (.cells #[.slice none 0 0, .slice none 0 0, .slice none 0 0, .slice none 0 0, .slice none 0 0, .slice none 0 0, .slice none 0 0, .slice none 0 0, .slice none 0 0, .slice none 0 0, .slice none 0 0, .slice none 0 0] 26)).heap.size = w.heap.size + 2 := by simp
 have z3 : w3.heap.size = w.heap.size + 3 := by rw [hw3]; simp
 have HB3 := Lib.hid (hx12.trans' hx23)
 have HT3 := Lib.hid (ht.ext_ HB3.out)
 have H4 : Hid (∀ w', Ext w3 w' → ∀ k : Nat, w'.cell? ⟨w.heap.size, k, none⟩ = t.v.cells[k]?) := Lib.hid (fun w' hw' => box_at (hx13.trans' hw'))
 have H9 : Hid (∀ w', Ext w3 w' → ∀ k : Nat, w'.cell? ⟨w.heap.size + 2, k, none⟩ = t.v.cells[k]?) := Lib.hid (fun w' hw' k => by
  rw [hw'.b.cell (p := ⟨w.heap.size + 2, k, none⟩) (by show w.heap.size + 2 < _; omega), hw3, ← z2]
  exact World.cell?_alloc_new _ _ _ k)
 have HF : Hid (∀ w', Ext w3 w' → ∀ k : Nat, w'.frozen? ⟨w.heap.size + 2, k, none⟩ = false) := Lib.hid (fun w' hw' k => by
  rw [hw'.b.frozen (p := ⟨w.heap.size + 2, k, none⟩) (by show w.heap.size + 2 < _; omega), hw3]
  exact World.frozen?_alloc_at _ _ _ _ z2.symm)
 have HR : Hid (∀ w', Ext w3 w' → w'.heap[w.heap.size + 1]? = some (.cells nil12 26 (0, 0))) := Lib.hid (fun w' hw' => by
  rw [hw'.b.block _ (by omega), hx23.b.block _ (by omega)]
  have h := heap_alloc_new ((w.alloc (.cells #[.slice t.s0.a t.s0.n t.s0.c, .slice t.s1.a t.s1.n t.s1.c, .slice t.s2.a t.s2.n t.s2.c, .slice t.s3.a t.s3.n t.s3.c, .slice t.s4.a t.s4.n t.s4.c, .slice t.s5.a t.s5.n t.s5.c, .slice t.s6.a t.s6.n t.s6.c, .slice t.s7.a t.s7.n t.s7.c, .slice t.s8.a t.s8.n t.s8.c, .slice t.s9.a t.s9.n t.s9.c, .slice t.s10.a t.s10.n t.s10.c, .slice t.s11.a t.s11.n t.s11.c] 26))) (.cells #[.slice none 0 0, .slice none 0 0, .slice none 0 0, .slice none 0 0, .slice none 0 0, .slice none 0 0, .slice none 0 0, .slice none 0 0, .slice none 0 0, .slice none 0 0, .slice none 0 0, .slice none 0 0] 26)
  rw [show ((w.alloc (.cells #[.slice t.s0.a t.s0.n t.s0.c, .slice t.s1.a t.s1.n t.s1.c, .slice t.s2.a t.s2.n t.s2.c, .slice t.s3.a t.s3.n t.s3.c, .slice t.s4.a t.s4.n t.s4.c, .slice t.s5.a t.s5.n t.s5.c, .slice t.s6.a t.s6.n t.s6.c, .slice t.s7.a t.s7.n t.s7.c, .slice t.s8.a t.s8.n t.s8.c, .slice t.s9.a t.s9.n t.s9.c, .slice t.s10.a t.s10.n t.s10.c, .slice t.s11.a t.s11.n t.s11.c] 26))).heap.size = w.heap.size + 1 from by simp] at h
  exact h)
 exact ⟨w3, hw3, z3, HB3, HT3, H4, H9, HF, HR⟩
theorem oth_end {w w3 w5 : World} {f : Nat} {t t' : TV} {T' : Tbl} {v : Value} (hX : ∀ w', Ext w3 w' → ∀ k : Nat, w'.cell? ⟨w.heap.size + 2, k, none⟩ = t.v.cells[k]?) (hR : ∀ w', Ext w3 w' → w'.heap[w.heap.size + 1]? = some (.cells nil12 26 (0, 0))) (hw3 : Ext w w3) (hw : Ext w3 w5) (hg : Glob w) (hT : TblS w5 t' T')
  (hv : t.v.cells[f]?.isSome = true) (hf : t'.v.cells[f]? = some v) (ho : ∀ k : Nat, k ≠ f → t'.v.cells[k]? = t.v.cells[k]?) :
  (w5.setCell ⟨w.heap.size + 2, f, none⟩ v).rangeAt (w.heap.size + 2) 0 [.slice t'.s0.a t'.s0.n t'.s0.c, .slice t'.s1.a t'.s1.n t'.s1.c, .slice t'.s2.a t'.s2.n t'.s2.c, .slice t'.s3.a t'.s3.n t'.s3.c, .slice t'.s4.a t'.s4.n t'.s4.c, .slice t'.s5.a t'.s5.n t'.s5.c, .slice t'.s6.a t'.s6.n t'.s6.c, .slice t'.s7.a t'.s7.n t'.s7.c, .slice t'.s8.a t'.s8.n t'.s8.c, .slice t'.s9.a t'.s9.n t'.s9.c, .slice t'.s10.a t'.s10.n t'.s10.c, .slice t'.s11.a t'.s11.n t'.s11.c] ∧
  (w5.setCell ⟨w.heap.size + 2, f, none⟩ v).heap[w.heap.size + 1]? = some (.cells nil12 26 (0, 0)) ∧ TblS ((w5.setCell ⟨w.heap.size + 2, f, none⟩ v).setRow (w.heap.size + 1) t'.v.cells) t' T' ∧ Ext w ((w5.setCell ⟨w.heap.size + 2, f, none⟩ v).setRow (w.heap.size + 1) t'.v.cells) := by
 obtain ⟨h1, h2, h3⟩ := oth_set (hX w5 hw) (hw3.trans' hw) (Nat.le_add_right _ _) hg hT hv hf ho
 have hr := hR w5 hw
 have hlt : w.heap.size + 1 < w5.heap.size := by
  rcases Nat.lt_or_ge (w.heap.size + 1) w5.heap.size with h | h
  ·exact h
  ·rw [Array.getElem?_eq_none h] at hr; cases hr
 have h4 : (w5.setCell ⟨w.heap.size + 2, f, none⟩ v).heap[w.heap.size + 1]? = some (.cells nil12 26 (0, 0)) := by
  rw [(Kp.setCell [w.heap.size + 2] w5 ⟨w.heap.size + 2, f, none⟩ v (by simp)).block _ hlt (by simp)]
  exact hr
 obtain ⟨h5, h6⟩ := oth_fin h4 h3 (Nat.le_add_right _ _) hg h2
 exact ⟨tv_range h1, h4, h5, h6⟩
end Go.Proofs.YtbdabjhankgcmaaGreatDoor
