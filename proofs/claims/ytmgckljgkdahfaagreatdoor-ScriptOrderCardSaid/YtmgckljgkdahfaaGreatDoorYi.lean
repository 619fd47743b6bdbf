/- The law ScriptSingle. -/
import Derived.Test.YtmgckljgkdahfaaGreatDoorYs
import Derived.Test.YtmgckljgkdahfaaGreatDoorYw
import Derived.Test.YtmgckljgkdahfaaGreatDoorYp
import Derived.Test.YtmgckljgkdahfaaGreatDoorKt2
namespace Go.Proofs.YtmgckljgkdahfaaGreatDoor
open Go.RowKit

theorem scrsL_scal : ∀ c ∈ scrsL, scalarB c = true := by decide
theorem scripts_scal (m : List Int) : ∀ c ∈ scriptsL m, scalarB c = true := fun c hc => scrsL_scal c (scrsGo_mem _ _ c hc)
theorem scripts_ord {T : Tbl} (hw : wfB T = true) (m : List Int) : ordErr T (scriptsL m) = 0 := ord_ok hw (by have := scriptsL_len m; omega) (scripts_scal m)

end Go.Proofs.YtmgckljgkdahfaaGreatDoor
