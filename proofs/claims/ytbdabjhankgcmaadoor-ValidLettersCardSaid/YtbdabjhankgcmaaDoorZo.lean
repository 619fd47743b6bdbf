/- The second elements of the decompositions in the made tables. -/
import Derived.Test.YtbdabjhankgcmaaDoorGo
namespace Go.Proofs.YtbdabjhankgcmaaDoor
def SecOk (m : Mp) : Prop := m.to.getD 1 0 ∈ 0 :: marksL
theorem decSeq_sec (k : Nat) (r : List Int) (c : Int) : SecOk ⟨c, (decSeq k r).1⟩ := by
 unfold SecOk decSeq
 split
 ·have := nxV_bd (decFst k r).2.tail (n := 5) (by decide)
  show marksL.getD _ 0 ∈ _
  rw [getD_lt _ _ _ (by simp [marksL]; omega)]
  exact List.mem_cons_of_mem _ (List.getElem_mem _)
 ·exact List.mem_cons_self
theorem stepD_sec (k : Nat) (D : Decs) (r : List Int) (h : ∀ m ∈ D.dec, SecOk m) : ∀ m ∈ (stepD k D r).1.dec, SecOk m := by
 intro m hm
 unfold stepD at hm
 split at hm
 ·exact h m hm
 ·rcases List.mem_append.1 hm with hm | hm
  ·exact h m hm
  ·rw [List.mem_singleton] at hm
   subst hm
   exact decSeq_sec k r.tail _
theorem runD_sec : ∀ (n k : Nat) (D : Decs) (r : List Int), (∀ m ∈ D.dec, SecOk m) → ∀ m ∈ (runD n k D r).1.dec, SecOk m
 | 0, _, _, _, h, m, hm => h m hm
 | n + 1, k, D, r, h, m, hm => runD_sec n (k + 1) _ _ (stepD_sec k D r h) m hm
theorem made_sec (l : List Int) : ∀ m ∈ (madeT l).dec, SecOk m := runD_sec 5 0 ⟨[], []⟩ (madeC l).2 (fun m hm => by cases hm)
end Go.Proofs.YtbdabjhankgcmaaDoor
