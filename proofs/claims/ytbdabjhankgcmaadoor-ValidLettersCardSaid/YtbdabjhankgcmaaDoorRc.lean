/- An argument that is a slice of bytes. -/
import Derived.Test.YtbdabjhankgcmaaDoorGk
import Derived.Test.YtbdabjhankgcmaaDoorBy
namespace Go.Proofs.YtbdabjhankgcmaaDoor
open Go.ChangeShapes Go.WideShapes Go.ChangeAt Go.RowKit Go.Deep
set_option maxRecDepth 100000 in
theorem bytes_arg {H : Type} {enc : TypeId × Value → H} {W : World} {base : Nat} {spare : Nat → Bool} {held : Bool} {v : Value} {d : DataW H} {p : List MemPlace} {r : Reach}
  (hv : Value.okWide Tryd.prog W r base 22 v) (h : DataW.Trod enc Tryd.prog W 0 spare held 22 v d p) : ∃ A n c l, v = .slice A n c ∧ ByteS W ⟨A, n, c⟩ l := by
 obtain ⟨a0, len, cap, rfl⟩ := okWide_slice Tryd.underlying22 hv
 obtain ⟨fuel, hf⟩ := h
 rcases open_ints Tryd.underlying22 Tryd.underlying5 (show Tryd.prog.cellsOf 5 = 1 by kernel_rfl) hf with ⟨hcs, hx⟩ | ⟨a, len', cap', zs, hcs, _, hl, hm, hz, hx, hcell, hwz⟩
 ·simp [Value.cells] at hcs
  obtain ⟨rfl, rfl, rfl⟩ := hcs
  exact ⟨none, 0, 0, [], rfl, ByteS.nil_ _⟩
 ·simp [Value.cells] at hcs
  obtain ⟨rfl, rfl, rfl⟩ := hcs
  have hlz : len ≤ zs.length := by rw [hz]; split <;> omega
  refine ⟨_, _, _, zs.take len, rfl, ⟨by simp; omega, by simp; omega, hm⟩, fun i x hix => ?_⟩
  have hi : i < len := by have := (List.getElem?_eq_some_iff.1 hix).1; simp at this; omega
  have hc := hcell i (by omega)
  obtain ⟨b, off, spot⟩ := a
  have hspot : spot = none := by simpa [Addr.add] using World.cell?_spot (hcell 0 (by omega))
  subst hspot
  rw [Addr.add_mid] at hc
  rw [List.getElem?_take_of_lt hi] at hix
  have hxz : x ∈ zs := List.mem_of_getElem? hix
  have hwf := hwz x hxz
  simp only [Lit.wf, IntKind.min, IntKind.max, IntKind.signed, IntKind.bits, Bool.and_eq_true, decide_eq_true_eq, Bool.false_eq_true, if_false] at hwf
  refine ⟨b, off, rfl, ?_, by omega, by omega⟩
  rw [hc]
  simp [List.getD, hix]
end Go.Proofs.YtbdabjhankgcmaaDoor
