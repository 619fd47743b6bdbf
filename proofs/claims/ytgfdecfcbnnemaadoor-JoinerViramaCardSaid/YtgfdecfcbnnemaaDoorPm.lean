/- Maps of the call's own whose keys are pairs of ints. -/
import Derived.Test.YtgfdecfcbnnemaaDoorMem
namespace Go.Proofs.YtgfdecfcbnnemaaDoor
open Go.RowKit

abbrev pkey (a b : Int) : Value := .agg #[.int .i64 a, .int .i64 b]

/-- The map at block r holds these entries, in this order. -/
def PMap (w : World) (r : Nat) (l : List ((Int × Int) × Value)) : Prop :=
  ∃ es clock, w.heap[r]? = some (.map es clock) ∧ es.toList.map (fun e => (e.key, e.val)) = l.map fun x => (pkey x.1.1 x.1.2, x.2)

theorem PMap.keep {w w' : World} {r : Nat} {l : List ((Int × Int) × Value)} (h : PMap w r l) (hb : w'.heap[r]? = w.heap[r]?) : PMap w' r l := by
  obtain ⟨es, clock, h1, h2⟩ := h
  exact ⟨es, clock, hb.trans h1, h2⟩
theorem PMap.lt {w : World} {r : Nat} {l : List ((Int × Int) × Value)} (h : PMap w r l) : r < w.heap.size := by
  obtain ⟨es, clock, h1, _⟩ := h
  rcases Nat.lt_or_ge r w.heap.size with hlt | hge
  · exact hlt
  · rw [Array.getElem?_eq_none hge] at h1; cases h1
theorem PMap.ext {w w' : World} {r : Nat} {l : List ((Int × Int) × Value)} (h : PMap w r l) (hb : Ext w w') : PMap w' r l := h.keep (hb.b.block r h.lt)

theorem run_makeMap_none (t : TypeId) (w : World) : (Instr.makeMap t none).run Tryd.prog w = .ok (.map (some w.heap.size)) (w.alloc (.map #[] 0)) := by
  simp [Instr.makeMap]
attribute [go_sem] run_makeMap_none

def pfind (a b : Int) : List ((Int × Int) × Value) → Option Value
  | [] => none
  | x :: l => if x.1.1 = a ∧ x.1.2 = b then some x.2 else pfind a b l

theorem run_equalIn_int (n : Nat) (a c : Int) (w : World) : (Op.equalIn (n + 1) 3 (.int .i64 a) (.int .i64 c)).run Tryd.prog w = .ok (a == c) w := by
  simp [Op.equalIn, run_underlying Tryd.underlying3]
theorem run_part_int (cs : Array Value) (i : Nat) (w : World) (v : Value) (h : cs[i]? = some v) : (part 3 cs i).run Tryd.prog w = .ok v w := by
  simp [part, go_sem, h]
theorem run_equalIn_pkey (n : Nat) (a b c d : Int) (w : World) : (Op.equalIn (n + 2) 96 (pkey a b) (pkey c d)).run Tryd.prog w = .ok (a == c && b == d) w := by
  obtain ⟨i, hi⟩ : ∃ i, Tryd.prog.info? 3 = some i := ⟨_, Tryd.type3⟩
  have hc : Tryd.prog.cellsOf 3 = 1 := by kernel_rfl
  rw [run_equalIn_array _ _ _ _ Tryd.underlying96 hi, hc, show List.range 2 = [0, 1] from rfl]
  cases h1 : (a == c) <;> cases h2 : (b == d) <;>
    simp [Op.eqItems, run_part_int _ 0 w (.int .i64 a), run_part_int _ 0 w (.int .i64 c), run_part_int _ 1 w (.int .i64 b), run_part_int _ 1 w (.int .i64 d), run_equalIn_int, h1, h2]
theorem run_equal_pkey (a b c d : Int) (w : World) : (Op.equal 96 (pkey a b) (pkey c d)).run Tryd.prog w = .ok (a == c && b == d) w :=
  run_equalIn_pkey 9998 a b c d w

theorem run_find_pkey (a b : Int) (w : World) : ∀ (es : List MapEntry) (l : List ((Int × Int) × Value)) (i : Nat), es.map (fun e => (e.key, e.val)) = l.map (fun x => (pkey x.1.1 x.1.2, x.2)) →
    ∃ j, (Instr.findAsking 96 (pkey a b) es i).run Tryd.prog w = .ok ((pfind a b l).map fun v => (j, v)) w := by
  intro es
  induction es with
  | nil =>
    intro l i h
    cases l with
    | nil => exact ⟨0, rfl⟩
    | cons x l => simp at h
  | cons e es ih =>
    intro l i h
    cases l with
    | nil => simp at h
    | cons x l =>
      simp only [List.map_cons, List.cons.injEq, Prod.mk.injEq] at h
      obtain ⟨⟨hk, hv⟩, ht⟩ := h
      obtain ⟨j, hj⟩ := ih l (i + 1) ht
      by_cases hx : x.1.1 = a ∧ x.1.2 = b
      · refine ⟨i, ?_⟩
        simp [Instr.findAsking, hk, hv, run_equal_pkey, pfind, hx]
      · refine ⟨j, ?_⟩
        have e1 : (a == x.1.1 && b == x.1.2) = false := by
          rw [Bool.and_eq_false_iff, beq_eq_false_iff_ne, beq_eq_false_iff_ne]
          by_cases h1 : a = x.1.1
          · right; intro h2; exact hx ⟨h1.symm, h2.symm⟩
          · left; exact h1
        simp [Instr.findAsking, hk, run_equal_pkey, e1, pfind, hx, hj]

theorem run_checkKey_int (em : Bool) (n : Nat) (a : Int) (w : World) : (Instr.checkKey em (n + 1) 3 (.int .i64 a)).run Tryd.prog w = .ok () w := by
  simp [Instr.checkKey, run_underlying Tryd.underlying3]
theorem run_checkKeyIn_pkey (em : Bool) (n : Nat) (a b : Int) (w : World) : (Instr.checkKey em (n + 2) 96 (pkey a b)).run Tryd.prog w = .ok () w := by
  obtain ⟨i, hi⟩ : ∃ i, Tryd.prog.info? 3 = some i := ⟨_, Tryd.type3⟩
  have hc : Tryd.prog.cellsOf 3 = 1 := by kernel_rfl
  rw [Instr.checkKey]
  simp only [Sem.run_bind, run_underlying Tryd.underlying96, Result.andThen_ok, Std.Legacy.Range.forIn_eq_forIn_range', Std.Legacy.Range.size, Nat.sub_zero, Nat.add_one_sub_one, Nat.div_one, show List.range' 0 2 = [0, 1] from rfl, List.forIn_cons, List.forIn_nil, run_sizeOf w hi, hc]
  simp [run_part_int _ 0 w (.int .i64 a), run_part_int _ 1 w (.int .i64 b), run_checkKey_int]
theorem run_checkKey_pkey (em : Bool) (a b : Int) (w : World) : (Instr.checkKey em 10000 96 (pkey a b)).run Tryd.prog w = .ok () w :=
  run_checkKeyIn_pkey em 9998 a b w

theorem run_findKey_pkey (a b : Int) (w : World) (es : List MapEntry) (l : List ((Int × Int) × Value)) (h : es.map (fun e => (e.key, e.val)) = l.map (fun x => (pkey x.1.1 x.1.2, x.2))) :
    ∃ j, (Instr.findKey 96 (pkey a b) es).run Tryd.prog w = .ok ((pfind a b l).map fun v => (j, v)) w := by
  cases es with
  | nil =>
    cases l with
    | nil => exact ⟨0, by simp [Instr.findKey, run_underlying Tryd.underlying96, Instr.findNow, pfind]⟩
    | cons x l => simp at h
  | cons e es =>
    obtain ⟨j, hj⟩ := run_find_pkey a b w (e :: es) l 0 h
    refine ⟨j, ?_⟩
    have e1 : Instr.findNow (TypeDesc.array 2 3) (pkey a b) (e :: es) 0 = none := by simp [Instr.findNow, Instr.sameNow]
    simp only [Instr.findKey, Sem.run_bind, run_underlying Tryd.underlying96, Result.andThen_ok, e1]
    exact hj

theorem run_plookup {T E : TypeId} {z : Value} (ht : Tryd.prog.underlying T = some (.map 96 E)) (hz : ∀ w, (zeroValue E).run Tryd.prog w = .ok z w) {w : World} {r : Nat} {l : List ((Int × Int) × Value)} (h : PMap w r l) (a b : Int) :
    (Instr.lookup T (.map (some r)) (pkey a b) false).run Tryd.prog w = .ok ((pfind a b l).getD z) w := by
  obtain ⟨es, clock, h1, h2⟩ := h
  obtain ⟨j, hj⟩ := run_findKey_pkey a b w es.toList l h2
  have hg : (getObj r).run Tryd.prog w = .ok (.map es clock) w := by simp [getObj, Sem.run, h1]
  simp only [Instr.lookup, Sem.run_bind, run_underlying ht, Result.andThen_ok, hg, run_checkKey_pkey, Sem.run_pure, hj]
  cases pfind a b l <;> simp [hz]
theorem run_plookup_ok {T E : TypeId} {z : Value} (ht : Tryd.prog.underlying T = some (.map 96 E)) (hz : ∀ w, (zeroValue E).run Tryd.prog w = .ok z w) {w : World} {r : Nat} {l : List ((Int × Int) × Value)} (h : PMap w r l) (a b : Int) :
    (Instr.lookup T (.map (some r)) (pkey a b) true).run Tryd.prog w = .ok (.tuple #[(pfind a b l).getD z, .bool (pfind a b l).isSome]) w := by
  obtain ⟨es, clock, h1, h2⟩ := h
  obtain ⟨j, hj⟩ := run_findKey_pkey a b w es.toList l h2
  have hg : (getObj r).run Tryd.prog w = .ok (.map es clock) w := by simp [getObj, Sem.run, h1]
  simp only [Instr.lookup, Sem.run_bind, run_underlying ht, Result.andThen_ok, hg, run_checkKey_pkey, Sem.run_pure, hj]
  cases pfind a b l <;> simp [hz]

theorem run_pupdate {T E : TypeId} (ht : Tryd.prog.underlying T = some (.map 96 E)) {w : World} {r : Nat} {l : List ((Int × Int) × Value)} (h : PMap w r l) (a b : Int) (v : Value) (hno : pfind a b l = none) :
    ∃ w1, (Instr.mapUpdate T (.map (some r)) (pkey a b) v).run Tryd.prog w = .ok () w1 ∧ PMap w1 r (l ++ [((a, b), v)]) ∧ w.grownBy w1 (some r) := by
  have hr := h.lt
  obtain ⟨es, clock, h1, h2⟩ := h
  obtain ⟨j, hj⟩ := run_findKey_pkey a b w es.toList l h2
  have hg : (getObj r).run Tryd.prog w = .ok (.map es clock) w := by simp [getObj, Sem.run, h1]
  rw [hno] at hj
  have hs : (setObj r (.map (es.push { key := pkey a b, val := v, born := clock }) (clock + 1))).run Tryd.prog w = .ok () { w with heap := w.heap.setIfInBounds r (.map (es.push { key := pkey a b, val := v, born := clock }) (clock + 1)) } := by
    simp [setObj, Sem.run, h1]
  refine ⟨{ w with heap := w.heap.setIfInBounds r (.map (es.push { key := pkey a b, val := v, born := clock }) (clock + 1)) }, ?_, ⟨es.push { key := pkey a b, val := v, born := clock }, clock + 1, by simp [hr], by simp [h2]⟩, ⟨rfl, rfl, rfl, by simp, fun k hk hne => ?_⟩⟩
  · simp only [Instr.mapUpdate, Sem.run_bind, run_underlying ht, Result.andThen_ok, hg, run_checkKey_pkey, hj, Option.map_none]
    exact hs
  · have : r ≠ k := fun e => hne (by rw [e])
    simp [this]
end Go.Proofs.YtgfdecfcbnnemaaDoor
