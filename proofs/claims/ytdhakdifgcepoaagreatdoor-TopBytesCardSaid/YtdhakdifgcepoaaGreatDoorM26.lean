/-
  A START FOR THE WITNESS: behind the variables the heap is the start's.
-/
import Derived.Test.YtdhakdifgcepoaaGreatDoorRows
import Derived.LaidMore
import Derived.LaidLaws
import Derived.KernelRfl
/-
  A START FOR THE WITNESS: behind the variables the heap is the start's.
-/
namespace Go.Cx
noncomputable section
open Go Go.Proofs
theorem door_shape2 (os : Os) (args : Array Value) : (((World.doorLaid Tryz.prog 400 os).forCall (fun _ _ => 0) ⟨#[], args, []⟩).heap.toList.drop Tryz.prog.globals.size).take ((begin Tryz.prog (fun _ _ => 0) default).world.heap.size - Tryz.prog.globals.size) =
      (begin Tryz.prog (fun _ _ => 0) default).world.heap.toList.drop Tryz.prog.globals.size := by kernel_rfl
end
end Go.Cx

