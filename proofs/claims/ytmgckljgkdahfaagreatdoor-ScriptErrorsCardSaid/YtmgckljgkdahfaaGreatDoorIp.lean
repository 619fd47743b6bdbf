/- A result that is a slice of ints. -/
import Derived.Test.YtmgckljgkdahfaaGreatDoorGh
namespace Go.Proofs.YtmgckljgkdahfaaGreatDoor
open Go.RowKit

/-- A result that is a slice of ints. -/
def IntsPost (w : World) (l : List Int) (e : Ending) (w' : World) : Prop := ∃ A n c, e = .returned (.slice A n c) ∧ IntS w' ⟨A, n, c⟩ l ∧ Ext w w'
end Go.Proofs.YtmgckljgkdahfaaGreatDoor
