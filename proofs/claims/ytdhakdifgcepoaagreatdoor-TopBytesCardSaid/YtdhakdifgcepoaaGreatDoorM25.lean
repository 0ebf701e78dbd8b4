/-
  A START FOR THE WITNESS: the heap that the door's run leaves has the shape of a start.
-/
import Derived.Test.YtdhakdifgcepoaaGreatDoorRows
import Derived.LaidMore
import Derived.LaidLaws
import Derived.KernelRfl
/-
  A START FOR THE WITNESS: the heap that the door's run leaves has the shape of a start.
-/
namespace Go.Cx
noncomputable section
open Go Go.Proofs
theorem door_shape1 (os : Os) (args : Array Value) : ((World.doorLaid Tryz.prog 400 os).forCall (fun _ _ => 0) ⟨#[], args, []⟩).variablesRefB Tryz.prog = true := by kernel_rfl
end
end Go.Cx

