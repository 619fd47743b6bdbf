/- Maps of the call's own whose keys are pairs, fit to be ranged over. -/
import Derived.Test.YtcjkikbnjadmfaaDoorGa
import Derived.Maps.RangeRun
namespace Go.Proofs.YtcjkikbnjadmfaaDoor
open Go.RowKit
open Go.ChangeMaps (setBlock)

/-- The map at block r holds these entries; their stamps are its own. -/
def PMapB (w : World) (r : Nat) (l : List ((Int × Int) × Value)) : Prop :=
  ∃ es clock, w.heap[r]? = some (.map es clock) ∧ es.toList.map (fun e => (e.key, e.val)) = l.map (fun x => (pkey x.1.1 x.1.2, x.2)) ∧ (∀ x ∈ es.toList, x.born < clock) ∧ (es.toList.map (·.born)).Nodup
theorem PMapB.pm {w : World} {r : Nat} {l : List ((Int × Int) × Value)} (h : PMapB w r l) : PMap w r l := by
  obtain ⟨es, clock, h1, h2, _⟩ := h
  exact ⟨es, clock, h1, h2⟩
theorem PMapB.lt {w : World} {r : Nat} {l : List ((Int × Int) × Value)} (h : PMapB w r l) : r < w.heap.size := h.pm.lt
theorem PMapB.keep {w w' : World} {r : Nat} {l : List ((Int × Int) × Value)} (h : PMapB w r l) (hb : w'.heap[r]? = w.heap[r]?) : PMapB w' r l := by
  obtain ⟨es, clock, h1, h2⟩ := h
  exact ⟨es, clock, hb.trans h1, h2⟩
theorem PMapB.ext {w w' : World} {r : Nat} {l : List ((Int × Int) × Value)} (h : PMapB w r l) (hb : Ext w w') : PMapB w' r l := h.keep (hb.b.block r h.lt)
theorem run_pupdateB {T E : TypeId} (ht : Tryd.prog.underlying T = some (.map 64 E)) {w : World} {r : Nat} {l : List ((Int × Int) × Value)} (h : PMapB w r l) (a b : Int) (v : Value) (hno : pfind a b l = none) :
    ∃ w1, (Instr.mapUpdate T (.map (some r)) (pkey a b) v).run Tryd.prog w = .ok () w1 ∧ PMapB w1 r (l ++ [((a, b), v)]) ∧ w.grownBy w1 (some r) := by
  have hr := h.lt
  obtain ⟨es, clock, h1, h2, h3, h4⟩ := h
  obtain ⟨j, hj⟩ := run_findKey_pkey a b w es.toList l h2
  have hg : (getObj r).run Tryd.prog w = .ok (.map es clock) w := by simp [getObj, Sem.run, h1]
  rw [hno] at hj
  have hs : (setObj r (.map (es.push { key := pkey a b, val := v, born := clock }) (clock + 1))).run Tryd.prog w = .ok () { w with heap := w.heap.setIfInBounds r (.map (es.push { key := pkey a b, val := v, born := clock }) (clock + 1)) } := by
    simp [setObj, Sem.run, h1]
  refine ⟨{ w with heap := w.heap.setIfInBounds r (.map (es.push { key := pkey a b, val := v, born := clock }) (clock + 1)) }, ?_, ⟨es.push { key := pkey a b, val := v, born := clock }, clock + 1, by simp [hr], by simp [h2], ?_, ?_⟩, ⟨rfl, rfl, rfl, by simp, fun k hk hne => ?_⟩⟩
  · simp only [Instr.mapUpdate, Sem.run_bind, run_underlying ht, Result.andThen_ok, hg, run_checkKey_pkey, hj, Option.map_none]
    exact hs
  · intro x hx
    rw [Array.toList_push, List.mem_append] at hx
    rcases hx with hx | hx
    · have := h3 x hx; omega
    · rw [List.mem_singleton] at hx; subst hx; show clock < clock + 1; omega
  · rw [Array.toList_push, List.map_append]
    refine List.nodup_append.2 ⟨h4, by simp, ?_⟩
    intro x hx y hy
    rw [List.mem_map] at hx
    obtain ⟨e, he, rfl⟩ := hx
    simp at hy
    subst hy
    have := h3 e he
    omega
  · have : r ≠ k := fun e => hne (by rw [e])
    simp [this]
theorem setBlock_at {w : World} {q : Nat} {o : Obj} (h : q < w.heap.size) : (setBlock w q o).heap[q]? = some o := by
  simp [setBlock, h]
theorem setBlock_ne {w : World} {q k : Nat} {o : Obj} (h : q ≠ k) : (setBlock w q o).heap[k]? = w.heap[k]? := by
  simp [setBlock, h]
theorem Ext.setBlock_ {w0 w : World} {q : Nat} (h : Ext w0 w) (hq : w0.heap.size ≤ q) (o : Obj) : Ext w0 (setBlock w q o) :=
  ⟨h.b.os, h.b.tape, h.b.output, by have := h.b.size; simp [setBlock]; omega, fun k hk => by rw [setBlock_ne (by omega)]; exact h.b.block k hk⟩
end Go.Proofs.YtcjkikbnjadmfaaDoor
