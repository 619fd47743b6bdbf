/- An argument that is a uint64. -/
import Derived.Test.YtmgckljgkdahfaaGreatDoorGk
namespace Go.Proofs.YtmgckljgkdahfaaGreatDoor
open Go.ChangeShapes Go.WideShapes Go.ChangeAt Go.RowKit Go.Deep

set_option maxRecDepth 100000 in
theorem u64_arg {H : Type} {enc : TypeId × Value → H} {W : World} {base : Nat} {spare : Nat → Bool} {held : Bool} {v : Value} {d : DataW H} {p : List MemPlace} {r : Reach}
    (hv : Value.okWide Tryz.prog W r base 38 v) (h : DataW.Trod enc Tryz.prog W 0 spare held 38 v d p) : ∃ s : BitVec 64, v = .int .u64 (s.toNat : Int) := by
  obtain ⟨x, rfl⟩ := okWide_int Tryz.underlying38 hv
  obtain ⟨fuel, hf⟩ := h
  obtain ⟨n, hc, _, hwf⟩ := DataW.trod_int Tryz.underlying38 hf
  simp only [Value.cells, List.cons.injEq, Value.int.injEq, and_true, true_and] at hc
  subst hc
  simp only [Lit.wf, IntKind.min, IntKind.max, IntKind.signed, IntKind.bits, Bool.and_eq_true, decide_eq_true_eq, Bool.false_eq_true, if_false] at hwf
  refine ⟨BitVec.ofNat 64 x.toNat, ?_⟩
  rw [BitVec.toNat_ofNat, Nat.mod_eq_of_lt (by omega), Int.toNat_of_nonneg (by omega)]
end Go.Proofs.YtmgckljgkdahfaaGreatDoor
