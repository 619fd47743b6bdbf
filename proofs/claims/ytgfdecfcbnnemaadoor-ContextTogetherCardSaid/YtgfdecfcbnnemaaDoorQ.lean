/- Regions that draw their order and whose calls make memory alone: one walk of the text's order serves every order. -/
import Derived.Test.YtgfdecfcbnnemaaDoorMem
namespace Go.Proofs.YtgfdecfcbnnemaaDoor
open Go.RowKit

/-- A world in which w0 stands unturned, with what is new behind it. -/
structure ExtW (w0 : World) where
  w : World
  h : Ext w0 w

instance (w0 : World) : Nonempty (ExtW w0) := ⟨⟨w0, Ext.refl w0⟩⟩

theorem region_ext {P : Program} {id : Nat} {Q : Exit → Act → World → Prop} {a : Act} {w : World} {l : List Oper} (hm : P.follows .mixedOrders = true) (hB : Region.lexB .any l.toArray = true)
    (h : wpQuiet P l.toArray (fun w' => ∃ x : ExtW w, w' = x.w) (fun a' => ∀ w', (∃ x : ExtW w, w' = x.w) → Q .normal a' w') l a) : (Code.region id l.toArray true).wp P Q a w :=
  wp_region_quiet (C := fun w' => ∃ x : ExtW w, w' = x.w) hm hB ⟨⟨w.drew, (Ext.refl w).drew_⟩, rfl⟩ (by simpa using h)

theorem quiet_ext {P : Program} {f : FuncId} {args : Array Value} {w0 : World} {x : ExtW w0} {v : Value}
    (h : Calls P f args x.w fun e w' => e = .returned v ∧ Ext x.w w') : Calls P f args x.w fun e w'' => e = .returned v ∧ ∃ y : ExtW w0, w'' = y.w :=
  h.mono fun _ w'' ⟨he, hb⟩ => ⟨he, ⟨w'', x.h.trans' hb⟩, rfl⟩
theorem quiet_same {P : Program} {f : FuncId} {args : Array Value} {w0 : World} {x : ExtW w0} {v : Value}
    (h : Calls P f args x.w fun e w' => e = .returned v ∧ x.w = w') : Calls P f args x.w fun e w'' => e = .returned v ∧ ∃ y : ExtW w0, w'' = y.w :=
  h.mono fun _ _ ⟨he, hb⟩ => ⟨he, x, hb.symm⟩

/-- A cell of w0, read in any of them. -/
theorem ext_cell {w0 : World} {p : Addr} {v : Value} (h : w0.cell? p = some v) : ∀ x : ExtW w0, x.w.cell? p = some v := fun x => keep_cell (ext_keep x.h) h

end Go.Proofs.YtgfdecfcbnnemaaDoor
