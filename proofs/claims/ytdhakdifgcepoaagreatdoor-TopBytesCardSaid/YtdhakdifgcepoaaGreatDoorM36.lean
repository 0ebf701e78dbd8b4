/-
  CLOSED FACTS OF THE PROGRAM's TIE.
-/
import Derived.Test.YtdhakdifgcepoaaGreatDoorM27
namespace Go.Proofs.YtdhakdifgcepoaaGreatDoor
open Go
theorem tA : ∀ os tape, varsDone Tryz.prog 400 (varsId Tryz.prog) os tape = true := fun _ _ => by kernel_rfl
end Go.Proofs.YtdhakdifgcepoaaGreatDoor

