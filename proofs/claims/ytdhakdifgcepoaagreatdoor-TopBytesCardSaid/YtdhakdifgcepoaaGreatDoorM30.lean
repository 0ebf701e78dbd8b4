/-
  CLOSED FACTS OF THE PROGRAM's TIE.
-/
import Derived.Test.YtdhakdifgcepoaaGreatDoorM27
namespace Go.Proofs.YtdhakdifgcepoaaGreatDoor
open Go
theorem tD : ∀ os tape, (laidT.filter fun x => x.2.handleName?.isSome).all (handleAtB Tryz.prog (varsWorld Tryz.prog 400 (varsId Tryz.prog) os tape).memory) = true := fun _ _ => by kernel_rfl
end Go.Proofs.YtdhakdifgcepoaaGreatDoor

