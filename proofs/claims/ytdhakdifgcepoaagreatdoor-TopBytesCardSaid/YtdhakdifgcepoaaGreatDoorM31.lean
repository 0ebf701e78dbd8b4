/-
  CLOSED FACTS OF TYPES for the start.
-/
import Derived.LaidLaws
import Derived.Test.YtdhakdifgcepoaaGreatDoorM05
/-
  CLOSED FACTS OF TYPES for the start.
-/
namespace Go.Cx
noncomputable section
open Go Go.Proofs Go.Conc
theorem star_rows : ∀ u, Q.typeName? 3 u = some "*errors.errorString" → u = 540 :=
  typeName_ptr_named (P := Q) (nm := "errors.errorString") (tp := 540) (by kernel_rfl) (by kernel_rfl) (by decide)

noncomputable def ms32 : Array (String × TypeId) := match Q.underlying 32 with
  | some (.interface ms) => ms
  | _ => #[]
theorem iface32 : Q.underlying 32 = some (.interface ms32) := by kernel_rfl
noncomputable def sField : Field := match Q.underlying 586 with
  | some (.struct #[f]) => f
  | _ => default
theorem u540 : Q.underlying 540 = some (.pointer 586) := by kernel_rfl
theorem u586 : Q.underlying 586 = some (.struct #[sField]) := by kernel_rfl
theorem sField_type : sField.type = 9 := by kernel_rfl
theorem sField_off : sField.offset = 0 := by kernel_rfl

theorem et0 : Q.globalNamed "errors.errorType" = some 0 := by kernel_rfl
theorem rtype437 : (Q.cutTypes.find? (·.1 == "internal/reflectlite.rtype")).map (·.2) = some 437 := by kernel_rfl
theorem oneRow : ((List.range 660).filter fun t => Q.rowNamed t [101, 114, 114, 111, 114]) = [32] := by kernel_rfl
theorem types660 : Q.types.size ≤ 660 := Nat.le_of_ble_eq_true (by kernel_rfl)
theorem handle32 : typeHandle Q 32 = .pointer (some ⟨7, 32, none⟩) := by kernel_rfl
theorem u539 : Q.underlying 539 = some (.array 64 5) := by kernel_rfl
theorem u5 : Q.underlying 5 = some (.int .u8) := by kernel_rfl
theorem cells5 : Q.cellsOf 5 = 1 := by kernel_rfl
end
end Go.Cx

