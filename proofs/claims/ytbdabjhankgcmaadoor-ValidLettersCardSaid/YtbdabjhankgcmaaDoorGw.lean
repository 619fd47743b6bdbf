/- A result that is a slice of ints. Walk: namedesklaw8.dense. (By program: dn_gen.py.). -/
import Derived.Test.YtbdabjhankgcmaaDoorGh
import Derived.Deep.LoopGhost
namespace Go.Proofs.YtbdabjhankgcmaaDoor
open Go.RowKit
def IntsPost (w : World) (l : List Int) (e : Ending) (w' : World) : Prop := ∃ A n c, e = .returned (.slice A n c) ∧ IntS w' ⟨A, n, c⟩ l ∧ Ext w w'
end Go.Proofs.YtbdabjhankgcmaaDoor
namespace Go.Proofs.YtbdabjhankgcmaaDoor
open Go.RowKit
end Go.Proofs.YtbdabjhankgcmaaDoor
