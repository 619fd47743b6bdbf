/- Spans that are in order and lie outside the reserved blocks, plain. No program in sight. -/
import Derived.Test.YtbdabjhankgcmaaGreatDoorGa
namespace Go.Proofs.YtbdabjhankgcmaaGreatDoor
structure ShOk (l : List Sp) : Prop where
 rng : rangeOk 0 1114111 l = true
 out : outAll l = true
theorem ShOk.len {l : List Sp} (h : ShOk l) : l.length ≤ 256 := by
 have := h.rng
 simp only [rangeOk, Bool.and_eq_true, decide_eq_true_eq] at this
 omega
theorem outAll_mem : ∀ {l : List Sp}, outAll l = true → ∀ s ∈ l, outsideB s = true
 | [], _, _, h => by cases h
 | x :: r, h, s, hs => by
  simp only [outAll, Bool.and_eq_true] at h
  rcases List.mem_cons.1 hs with rfl | hs
  ·exact h.1
  ·exact outAll_mem h.2 s hs
theorem chain_mem {lo hi : Int} : ∀ {l : List Sp} {last : Int}, chain lo hi last l = true → ∀ s ∈ l, last < s.lo ∧ s.lo ≤ s.hi ∧ s.hi ≤ 1114111
 | [], _, _, _, h => by cases h
 | x :: r, last, h, s, hs => by
  simp only [chain, Bool.and_eq_true, Bool.not_eq_true', Bool.or_eq_false_iff, decide_eq_false_iff_not] at h
  rcases List.mem_cons.1 hs with rfl | hs
  ·omega
  ·have := chain_mem h.2 s hs
   omega
theorem outside_no {lo hi v c : Int} (h : outsideB ⟨lo, hi, v⟩ = true) (h1 : lo ≤ c) (h2 : c ≤ hi) : resB c = false ∧ (c < 0 ∨ 1114111 < c ∨ scalarB c = true) := by
 simp only [outsideB, outGo, blocksL, touches, Bool.and_eq_true, Bool.not_eq_true', Bool.and_eq_false_iff, decide_eq_false_iff_not] at h
 simp only [resB, surB, syllB, jamoB, scalarB, Bool.or_eq_false_iff, Bool.and_eq_false_iff, decide_eq_false_iff_not, Bool.and_eq_true, Bool.or_eq_true, decide_eq_true_eq]
 omega
theorem ShOk.zero {l : List Sp} (h : ShOk l) {c : Int} (hc : resB c = true ∨ scalarB c = false) : spFind l c = 0 := by
 refine spFind_none fun s hs hin => ?_
 have h1 := outAll_mem h.out s hs
 have hr := h.rng
 simp only [rangeOk, Bool.and_eq_true] at hr
 have h2 := chain_mem hr.1 s hs
 obtain ⟨slo, shi, sv⟩ := s
 obtain ⟨h3, h4⟩ := outside_no h1 hin.1 hin.2
 simp only at h2 hin
 rcases hc with hc | hc
 ·rw [h3] at hc; cases hc
 ·rw [hc] at h4
  simp only [Bool.false_eq_true, or_false] at h4
  omega
end Go.Proofs.YtbdabjhankgcmaaGreatDoor
