/-
  gzip.Parse, lengths 1 to 100.
-/
import Derived.Test.YtdhakdifgcepoaaGreatDoorM09
/-
  gzip.Parse, lengths 1 to 100.
-/
namespace Go.Cx
noncomputable section
open Go Go.Proofs Go.Conc
set_option maxRecDepth 100000
theorem pg_1 (Post : Value → World → Prop) (x d : Nat → UInt8) (y : Nat → AV) : eachF (pgIs Post x d y) 20 1 = eachF (pgBe Post x d) 20 1 := by kernel_rfl
theorem pg_21 (Post : Value → World → Prop) (x d : Nat → UInt8) (y : Nat → AV) : eachF (pgIs Post x d y) 20 21 = eachF (pgBe Post x d) 20 21 := by kernel_rfl
theorem pg_41 (Post : Value → World → Prop) (x d : Nat → UInt8) (y : Nat → AV) : eachF (pgIs Post x d y) 20 41 = eachF (pgBe Post x d) 20 41 := by kernel_rfl
theorem pg_61 (Post : Value → World → Prop) (x d : Nat → UInt8) (y : Nat → AV) : eachF (pgIs Post x d y) 20 61 = eachF (pgBe Post x d) 20 61 := by kernel_rfl
theorem pg_81 (Post : Value → World → Prop) (x d : Nat → UInt8) (y : Nat → AV) : eachF (pgIs Post x d y) 20 81 = eachF (pgBe Post x d) 20 81 := by kernel_rfl
theorem pg_from1 (Post : Value → World → Prop) (x d : Nat → UInt8) (y : Nat → AV) {n : Nat} (h1 : 1 ≤ n) (h2 : n ≤ 100) : pgIs Post x d y n = pgBe Post x d n := by
  by_cases c1 : n < 21
  · exact eachF_get 20 1 (pg_1 Post x d y) n (by omega) c1
  by_cases c21 : n < 41
  · exact eachF_get 20 21 (pg_21 Post x d y) n (by omega) c21
  by_cases c41 : n < 61
  · exact eachF_get 20 41 (pg_41 Post x d y) n (by omega) c41
  by_cases c61 : n < 81
  · exact eachF_get 20 61 (pg_61 Post x d y) n (by omega) c61
  exact eachF_get 20 81 (pg_81 Post x d y) n (by omega) (by omega)
end
end Go.Cx

