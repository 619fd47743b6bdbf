/- keep.Tables: the state of its loop, in plain words; how it is kept. -/
import Derived.Test.YtmgckljgkdahfaaGreatDoorGh
import Derived.Test.YtmgckljgkdahfaaGreatDoorKb
namespace Go.Proofs.YtmgckljgkdahfaaGreatDoor
open Go.RowKit

/-! The plain law. -/
def chAll (u : Us) (r : List Int) : Us × List Int :=
  let r1 := chR r
  let r2 := chR r1
  let r3 := chR r2
  let r4 := chR r3
  let r5 := chR r4
  (⟨chV r [u.cat, 2, 1], chV r1 [u.cls, 0, 1, 9, 202, 220, 230, 254], chV r2 [u.joi, 0, 1, 2, 3, 4, 5], chV r3 [u.bid, 0, 1, 2, 3, 4, 8, 10, 11], chV r4 [u.scr, 0, 1, 2, 3, 6, 7, 9, 10], chV r5 [u.sta, 0, 1, 2, 4]⟩, chR r5)
def chUs (wild : Bool) (c : Int) (r : List Int) : Us × List Int := if wild = true then chAll (usV c) r else (usV c, r)
/-- Is the code point made ignorable; what is left of the source. -/
def chIgn (wild : Bool) (c : Int) (r : List Int) : Bool × List Int := if c = 173 then (true, r) else if wild = true then (nxV 12 r == 0, r.tail) else (false, r)
structure Cols where
  cat : List Sp
  cls : List Sp
  joi : List Sp
  bid : List Sp
  scr : List Sp
  ign : List Sp
  sta : List Int
def stepC (wild : Bool) (c : Int) (C : Cols) (r : List Int) : Cols × List Int :=
  let u := chUs wild c r
  let g := chIgn wild c u.2
  (⟨addL C.cat c c u.1.cat, addL C.cls c c u.1.cls, addL C.joi c c u.1.joi, addL C.bid c c u.1.bid, addL C.scr c c u.1.scr, if g.1 = true then C.ign ++ [⟨c, c, 1⟩] else C.ign, C.sta ++ [u.1.sta]⟩, g.2)
def runC (wild : Bool) : List Int → Cols → List Int → Cols × List Int
  | [], C, r => (C, r)
  | c :: l, C, r => runC wild l (stepC wild c C r).1 (stepC wild c C r).2

theorem addL_len (L : List Sp) (a b v : Int) : (addL L a b v).length ≤ L.length + 1 := by
  unfold addL
  split <;> simp

/-! How a column lies. -/
def ColAt (M : List Nat) (w : World) (tb j : Nat) (L : List Sp) : Prop := ∃ A n c, w.cell? ⟨tb, j, none⟩ = some (.slice A n c) ∧ SpanS (hide M w) ⟨A, n, c⟩ L ∧ w.frozen? ⟨tb, j, none⟩ = false

theorem ColAt.kp {M N : List Nat} {w w' : World} {tb j : Nat} {L : List Sp} (h : ColAt M w tb j L) (hk : Kp N w w') (hN : ∀ b ∈ N, b ∈ M ∨ w.heap.size ≤ b) (ht : tb ∉ N) : ColAt M w' tb j L := by
  obtain ⟨A, n, c, h1, h2, h3⟩ := h
  have hlt := World.block_lt_of_cell? w _ h1
  exact ⟨A, n, c, by rw [hk.cell _ hlt ht]; exact h1, h2.keep (hide_keep' (hk.mono hN)), by rw [hk.frozen ⟨tb, j, none⟩ hlt ht]; exact h3⟩
/-- Another column is written. -/
theorem ColAt.add {M : List Nat} {w0 w w' : World} {tb j k : Nat} {L L' : List Sp} (h : ColAt M w tb k L) (hp : AddPost M w0 w w' tb j L') (hkj : k ≠ j) (hM : tb ∈ M) : ColAt M w' tb k L := by
  obtain ⟨A, n, c, h1, h2, h3⟩ := h
  exact ⟨A, n, c, (hp.other k hkj).trans h1, h2.keep (hide_keep' (hp.kp.mono (by intro b hb; simp at hb; subst hb; exact .inl hM))), (hp.frozen k).trans h3⟩
/-- The column that is written. -/
theorem ColAt.self {M : List Nat} {w0 w w' : World} {tb j : Nat} {L L' : List Sp} (h : ColAt M w tb j L) (hp : AddPost M w0 w w' tb j L') : ColAt M w' tb j L' := by
  obtain ⟨A, n, c, _, _, h3⟩ := h
  obtain ⟨A', n', c', h1, h2⟩ := hp.row
  exact ⟨A', n', c', h1, h2, (hp.frozen j).trans h3⟩
theorem ColAt.nil_ {M : List Nat} {w : World} {tb j : Nat} (h : w.cell? ⟨tb, j, none⟩ = some (.slice none 0 0)) (hf : w.frozen? ⟨tb, j, none⟩ = false) : ColAt M w tb j [] := ⟨none, 0, 0, h, SpanS.nil_ _, hf⟩

/-- add, on a column. -/
theorem add_col (M : List Nat) (w0 w : World) (tb j : Nat) (L : List Sp) (lo hi x2 v : Int) (hM : tb ∈ M) (hMl : ∀ b ∈ M, b < w.heap.size) (hb : Ext w0 w) (htb : w0.heap.size ≤ tb) (h : ColAt M w tb j L) (hl : L.length ≤ 1000) :
    Calls Tryz.prog 32 #[.pointer (some ⟨tb, j, none⟩), .agg #[.int .i64 lo, .int .i64 hi, .int .i64 x2], .int .i64 v] w fun e w' => e = .returned (.tuple #[]) ∧ AddPost M w0 w w' tb j (addL L lo hi v) := by
  obtain ⟨A, n, c, h1, h2, h3⟩ := h
  exact add_spec M w0 w tb j A n c L lo hi x2 v hM hMl hb htb h1 h3 h2 hl
end Go.Proofs.YtmgckljgkdahfaaGreatDoor
