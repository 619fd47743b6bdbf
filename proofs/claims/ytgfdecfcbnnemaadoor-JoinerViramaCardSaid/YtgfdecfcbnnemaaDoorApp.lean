/- append onto a row of the call's own; rows of ints, spans and mappings. -/
import Derived.Test.YtgfdecfcbnnemaaDoorMem
import Derived.Maps.AppendAt
namespace Go.Proofs.YtgfdecfcbnnemaaDoor
open Go.RowKit

/-- A row of the call's own, its value in parts. -/
def Own (w : World) (base : Nat) (e : TypeId) (size : Nat) (A : Option Addr) (n c : Nat) (xs : List Value) : Prop := w.ownsRow base e size (.slice A n c) n xs

theorem Own.nil_ (w : World) (base : Nat) (e : TypeId) (size : Nat) : Own w base e size none 0 0 [] := World.ownsRow_nil w base e size
theorem Own.shape {w : World} {base : Nat} {e : TypeId} {size : Nat} {v : Value} {n : Nat} {xs : List Value} (h : w.ownsRow base e size v n xs) : ∃ A c, v = .slice A n c ∧ Own w base e size A n c xs := by
  have h0 := h
  rcases h.2 with ⟨rfl, rfl⟩ | ⟨g, cap, cur, rfl, _⟩
  · exact ⟨none, 0, rfl, h0⟩
  · exact ⟨_, _, rfl, h0⟩
/-- The block of a row. -/
def blkOf (A : Option Addr) : Option Nat := A.map (·.block)
theorem ownBlock_slice (A : Option Addr) (n c : Nat) : (Value.slice A n c).ownBlock = blkOf A := by cases A <;> rfl

section
variable {w w' : World} {base : Nat} {e : TypeId} {size n c : Nat} {A : Option Addr} {xs : List Value}
theorem Own.kept {row : Option Nat} (h : Own w base e size A n c xs) (hg : w.grownBy w' row) (hne : blkOf A = none ∨ blkOf A ≠ row) : Own w' base e size A n c xs :=
  World.ownsRow.kept h hg (by rw [ownBlock_slice]; exact hne)
theorem Own.ext (h : Own w base e size A n c xs) (hb : Ext w w') : Own w' base e size A n c xs := by
  refine World.ownsRow.kept (row := none) h ⟨hb.b.os, hb.b.tape, hb.b.output, hb.b.size, fun k hk _ => hb.b.block k hk⟩ ?_
  cases A with
  | none => exact .inl rfl
  | some a => exact .inr (by simp [Value.ownBlock])
theorem Own.lt (h : Own w base e size A n c xs) : ∀ k, blkOf A = some k → base ≤ k ∧ k < w.heap.size := fun k hk => World.ownsRow.lt h k (by rw [ownBlock_slice]; exact hk)
theorem Own.len (h : Own w base e size A n c xs) : xs.length = n * size := h.1
theorem Own.le (h : Own w base e size A n c xs) : n ≤ c ∧ c ≤ maxLen := by
  rcases h.2 with ⟨h', rfl⟩ | ⟨g, cap, cur, h', _, _, h1, h2, _⟩
  · injection h' with _ _ h3
    subst h3
    exact ⟨Nat.le_refl _, by simp [maxLen]⟩
  · injection h' with _ _ h3
    subst h3
    exact ⟨h1, h2⟩
theorem Own.cells_ (h : Own w base e size A n c xs) : ∀ j u, xs[j]? = some u → ∃ b, A = some ⟨b, 0, none⟩ ∧ w.cell? ⟨b, j, none⟩ = some u := by
  intro j u hj
  rcases h.2 with ⟨h', h0⟩ | ⟨g, cap, cur, h', _, _, _⟩
  · have hl := h.1
    rw [h0, Nat.zero_mul] at hl
    have := (List.getElem?_eq_some_iff.1 hj).1
    omega
  · injection h' with hA _ hc
    subst hA hc
    have hlt : j < n * size := by have := (List.getElem?_eq_some_iff.1 hj).1; have := h.1; omega
    exact ⟨g, rfl, (World.ownsRow.cellAt h j hlt).trans hj⟩
theorem Own.some_ (h : Own w base e size A n c xs) (hn : 0 < n) : ∃ g, A = some ⟨g, 0, none⟩ := by
  rcases h.2 with ⟨_, h0⟩ | ⟨g, cap, cur, h', _⟩
  · omega
  · injection h' with hA
    exact ⟨g, hA⟩
end

/-- append, whatever the source: nil, empty or not. -/
theorem append_gen {T E : TypeId} {z : Value} {size bytes : Nat} (ht : Tryd.prog.underlying T = some (.slice E)) (hinfo : (Tryd.prog.info? E).map (fun i => (i.zero, i.size, i.bytes)) = some (some z, size, bytes)) (hzs : z.cells.size = size) (hsz : 0 < size)
    {w : World} {base n c : Nat} {A : Option Addr} {xs : List Value} (hown : Own w base E size A n c xs) (A2 : Option Addr) (m c2 : Nat) (ys : List Value) (hl : ys.length = m * size)
    (hc : ∀ j u, ys[j]? = some u → ∃ b o, A2 = some ⟨b, o, none⟩ ∧ w.cell? ⟨b, o + j, none⟩ = some u) (h1 : ∀ u ∈ ys, u.oneCell' = true) (h63 : n + m ≤ maxLen) (hbytes : (n + m) * bytes ≤ 140737488355328) (hbase : base ≤ w.heap.size) :
    ∃ A' c' w', (∀ ty, (Builtin.append_ #[T, T] ty #[.slice A n c, .slice A2 m c2]).run Tryd.prog w = .ok (.slice A' (n + m) c') w') ∧ Own w' base E size A' (n + m) c' (xs ++ ys) ∧ w.grownBy w' (blkOf A) ∧ (blkOf A' = blkOf A ∨ blkOf A' = some w.heap.size) := by
  obtain ⟨i, hi, hz, hs, hb⟩ := info_parts hinfo
  rcases A2 with _ | ⟨b2, o2, sp⟩
  · have hm : m = 0 := by
      rcases Nat.eq_zero_or_pos m with h | h
      · exact h
      · have hpos : 0 < ys.length := by rw [hl]; exact Nat.mul_pos h hsz
        obtain ⟨b, o, h, _⟩ := hc 0 _ (List.getElem?_eq_getElem hpos)
        cases h
    subst hm
    have hys : ys = [] := List.eq_nil_of_length_eq_zero (by simpa using hl)
    subst hys
    refine ⟨A, c, w, fun ty => ?_, by simpa using hown, World.grownBy.refl w _, .inl rfl⟩
    rcases hown.2 with ⟨h', h0⟩ | ⟨g, cap, cur, h', _, _, hnc, _⟩
    · injection h' with e1 e2 e3
      subst e1 e2 e3
      simp [Builtin.append_, run_underlying ht, sizeOf, typeInfo, hi, Builtin.lenOf, Builtin.firstCells]
    · injection h' with e1 e2 e3
      subst e1 e3
      simp [Builtin.append_, run_underlying ht, sizeOf, typeInfo, hi, Builtin.lenOf, Builtin.firstCells, hnc, storeCells]
  · have hnews : ∀ j u, ys[j]? = some u → w.cell? ((⟨b2, o2, sp⟩ : Addr).add j) = some u := by
      intro j u hj
      obtain ⟨b, o, h, hcell⟩ := hc j u hj
      injection h with h
      injection h with e1 e2 e3
      subst e1 e2 e3
      rw [← hcell]
      unfold Addr.add
      by_cases h0 : j = 0
      · subst h0; simp
      · simp [h0]
    obtain ⟨v', w', hrun, h2, h3, _, h5⟩ := run_append_own_at (P := Tryd.prog) w base T T E i z size bytes ht hi hz hs hb hzs hsz (.slice A n c) n xs hown ⟨b2, o2, sp⟩ m c2 ys hl hnews h1 h63 hbytes hbase
    obtain ⟨A', c', rfl, h2'⟩ := Own.shape h2
    refine ⟨A', c', w', fun ty => ?_, h2', by rw [← ownBlock_slice]; exact h3, by rw [← ownBlock_slice A' (n + m) c', ← ownBlock_slice A n c]; exact h5⟩
    obtain ⟨v2, w2, hrun2, _⟩ := run_append_own_at (P := Tryd.prog) w base T ty E i z size bytes ht hi hz hs hb hzs hsz (.slice A n c) n xs hown ⟨b2, o2, sp⟩ m c2 ys hl hnews h1 h63 hbytes hbase
    exact (show (Builtin.append_ #[T, T] ty #[.slice A n c, .slice (some ⟨b2, o2, sp⟩) m c2]).run Tryd.prog w = (Builtin.append_ #[T, T] T #[.slice A n c, .slice (some ⟨b2, o2, sp⟩) m c2]).run Tryd.prog w from rfl).trans hrun

theorem ext_of_grown {w w0 w' : World} {row : Option Nat} (h : Ext w0 w) (hg : w.grownBy w' row) (hr : ∀ k, row = some k → w0.heap.size ≤ k) : Ext w0 w' :=
  Below.grown h.b hg h.b.size hr

/-! Ints. -/
theorem infoInt : (Tryd.prog.info? 3).map (fun i => (i.zero, i.size, i.bytes)) = some (some (.int .i64 0), 1, 8) := by kernel_rfl
abbrev OwnI (w : World) (base : Nat) (A : Option Addr) (n c : Nat) (l : List Int) : Prop := Own w base 3 1 A n c (l.map (Value.int .i64))

theorem OwnI.ints {w : World} {base n c : Nat} {A : Option Addr} {l : List Int} (h : OwnI w base A n c l) : IntS w ⟨A, n, c⟩ l := by
  have hl := h.len
  simp only [List.length_map, Nat.mul_one] at hl
  obtain ⟨h1, h2⟩ := h.le
  refine ⟨⟨hl.symm, by rw [hl]; exact h1, h2⟩, fun i x hx => ?_⟩
  obtain ⟨b, rfl, hc⟩ := h.cells_ i (.int .i64 x) (by simp [hx])
  exact ⟨b, 0, rfl, by simpa using hc⟩

theorem append_ints {w : World} {base n c : Nat} {A : Option Addr} {l : List Int} (hown : OwnI w base A n c l) {A2 : Option Addr} {m c2 : Nat} {l2 : List Int} (h2 : IntS w ⟨A2, m, c2⟩ l2) (hb : n + m ≤ 1099511627776) (hbase : base ≤ w.heap.size) :
    ∃ A' c' w', (∀ ty, (Builtin.append_ #[22, 22] ty #[.slice A n c, .slice A2 m c2]).run Tryd.prog w = .ok (.slice A' (n + m) c') w') ∧ OwnI w' base A' (n + m) c' (l ++ l2) ∧ w.grownBy w' (blkOf A) ∧ (blkOf A' = blkOf A ∨ blkOf A' = some w.heap.size) := by
  have hm := h2.len.1
  obtain ⟨A', c', w', h3, h4, h5, h6⟩ := append_gen Tryd.underlying22 infoInt rfl (by omega) hown A2 m c2 (l2.map (Value.int .i64)) (by simp [hm])
    (fun j u hj => by
      rw [List.getElem?_map] at hj
      cases hx : l2[j]? with
      | none => rw [hx] at hj; cases hj
      | some x =>
        rw [hx] at hj
        simp only [Option.map_some, Option.some.injEq] at hj
        subst hj
        exact h2.2 j x hx)
    (by intro u hu; rw [List.mem_map] at hu; obtain ⟨x, _, rfl⟩ := hu; rfl) (by simp only [maxLen]; omega) (by omega) hbase
  exact ⟨A', c', w', h3, by rw [OwnI, List.map_append]; exact h4, h5, h6⟩

/-- The one element of 'append(s, x)', in a block of its own. -/
theorem one_int (w : World) (x : Int) : IntS (w.alloc (.cells #[.int .i64 x] 3)) ⟨some ⟨w.heap.size, 0, none⟩, 1, 1⟩ [x] := by
  refine ⟨⟨rfl, Nat.le_refl _, by simp [maxLen]⟩, fun i y hy => ?_⟩
  match i, hy with
  | 0, hy => simp at hy; subst hy; exact ⟨w.heap.size, 0, rfl, box1 w _ _⟩
  | i + 1, hy => simp at hy

theorem wpList_run_append {ops : Array Oper} {rest : List Oper} {o : Oper} {a : Act} {w : World} {Q : Exit → Act → World → Prop} (hgd : o.guard = none) (s x : Operand) (t : TypeId)
    (ho : o.op = .call { callee := .builtin .append, args := #[s, x], argTypes := #[t, t] }) (v u : Value) (hs : a.eval s = v) (hx : a.eval x = u) (v' : Value) (w' : World)
    (hrun : ∀ ty, (Builtin.append_ #[t, t] ty #[v, u]).run Tryd.prog w = .ok v' w') (h : wpList Tryd.prog ops Q rest (a.put o.dst v') w') :
    wpList Tryd.prog ops Q (o :: rest) a w := by
  refine wpList_plain hgd fun K hK => ?_
  unfold Oper.wp execOp
  simp only [ho, resolve, invoke, builtin, Sem.run_bind, Sem.run_pure, Result.andThen_ok, List.map_toArray, List.map_cons, List.map_nil, hs, hx, hrun]
  exact hK _ _ h

end Go.Proofs.YtgfdecfcbnnemaaDoor
