/-
  CLOSED FACTS OF THE PROGRAM's TIE.
-/
import Derived.Test.YtdhakdifgcepoaaGreatDoorRows
import Derived.LaidByTextLater
import Derived.SevenTiedAt
namespace Go.Proofs.YtdhakdifgcepoaaGreatDoor
open Go
theorem noOwnUnsafe' : Tryz.pinned.checked.prog.headLifts.contains "ownunsafe" = false := by kernel_rfl
noncomputable def laidT : List (String × DataW Unit) := [("collimator/blame.errBytes", Rows.laid_collimator_blame_errBytes), ("collimator/blame.errCodes", Rows.laid_collimator_blame_errCodes), ("collimator/blame.errTexts", Rows.laid_collimator_blame_errTexts), ("collimator/blame.errRoom", Rows.laid_collimator_blame_errRoom), ("collimator/blame.errOther", Rows.laid_collimator_blame_errOther), ("math/bits.deBruijn64tab", Rows.laid_math_bits_deBruijn64tab), ("errors.errorType", Rows.laid_errors_errorType)]
theorem t1 : Tryz.prog.worded (varsWordLater true) = true := by kernel_rfl
theorem t2 : Tryz.prog.worded (varsWordLater false) = false := by kernel_rfl
theorem t3 : Tryz.prog.worded rootWordLater = true := by kernel_rfl
theorem t4 : laidT.map (fun x => Tryz.prog.kindOfLater x.1) = [LaidKind.sentinel, .sentinel, .sentinel, .sentinel, .sentinel, .data, .handle].map some := by kernel_rfl
theorem t5 : (Tryz.prog.funcNamed "gosem.cut.vars").isSome = true := by kernel_rfl
theorem t6 : varsNamedLaterB Tryz.prog (varsId Tryz.prog) laidT = true := by kernel_rfl
end Go.Proofs.YtdhakdifgcepoaaGreatDoor

