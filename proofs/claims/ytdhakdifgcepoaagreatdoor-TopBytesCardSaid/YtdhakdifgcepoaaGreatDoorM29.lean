/-
  CLOSED FACTS OF THE PROGRAM's TIE.
-/
import Derived.Test.YtdhakdifgcepoaaGreatDoorM27
namespace Go.Proofs.YtdhakdifgcepoaaGreatDoor
open Go
theorem tC : ∀ os tape, (DataW.laidRun Tryz.prog (varsWorld Tryz.prog 400 (varsId Tryz.prog) os tape).memory 8 ((laidT.filter fun x => x.2.handleName?.isNone).map (·.1))).map (fun x => decide x.2.Nodup && laidRowsB Tryz.prog (varsWorld Tryz.prog 400 (varsId Tryz.prog) os tape).memory x.2) = some true := fun _ _ => by kernel_rfl
end Go.Proofs.YtdhakdifgcepoaaGreatDoor

