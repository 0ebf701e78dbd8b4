/-
  MORE CLOSED FACTS OF THE ROW OF topBytes.
-/
import Derived.Test.YtdhakdifgcepoaaGreatDoorCards
import Derived.KernelRfl
/-
  MORE CLOSED FACTS OF THE ROW OF topBytes.
-/
namespace Go.Cx
noncomputable section
open Go Go.Proofs Go.Proofs.YtdhakdifgcepoaaGreatDoor
theorem topBytes_wf : Rows.topBytesRow.wfByText (OpenSpec.ofChange Rows.topBytesSpec) = true := by kernel_rfl
end
end Go.Cx

