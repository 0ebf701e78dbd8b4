/-
  ONE MORE CLOSED FACT OF THE ROW OF topBytes.
-/
import Derived.Test.YtdhakdifgcepoaaGreatDoorCards
import Derived.KernelRfl
/-
  ONE MORE CLOSED FACT OF THE ROW OF topBytes.
-/
namespace Go.Cx
noncomputable section
open Go Go.Proofs Go.Proofs.YtdhakdifgcepoaaGreatDoor
theorem topBytes_goes : true = Rows.topBytesRow.goesBy Tryz.pinned.checked.prog := by kernel_rfl
end
end Go.Cx

