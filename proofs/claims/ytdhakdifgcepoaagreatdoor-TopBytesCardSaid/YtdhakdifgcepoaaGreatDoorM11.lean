/-
  gzip.Parse, lengths 101 to 200.
-/
import Derived.Test.YtdhakdifgcepoaaGreatDoorM09
/-
  gzip.Parse, lengths 101 to 200.
-/
namespace Go.Cx
noncomputable section
open Go Go.Proofs Go.Conc
set_option maxRecDepth 100000
theorem pg_101 (Post : Value → World → Prop) (x d : Nat → UInt8) (y : Nat → AV) : eachF (pgIs Post x d y) 20 101 = eachF (pgBe Post x d) 20 101 := by kernel_rfl
theorem pg_121 (Post : Value → World → Prop) (x d : Nat → UInt8) (y : Nat → AV) : eachF (pgIs Post x d y) 20 121 = eachF (pgBe Post x d) 20 121 := by kernel_rfl
theorem pg_141 (Post : Value → World → Prop) (x d : Nat → UInt8) (y : Nat → AV) : eachF (pgIs Post x d y) 20 141 = eachF (pgBe Post x d) 20 141 := by kernel_rfl
theorem pg_161 (Post : Value → World → Prop) (x d : Nat → UInt8) (y : Nat → AV) : eachF (pgIs Post x d y) 20 161 = eachF (pgBe Post x d) 20 161 := by kernel_rfl
theorem pg_181 (Post : Value → World → Prop) (x d : Nat → UInt8) (y : Nat → AV) : eachF (pgIs Post x d y) 20 181 = eachF (pgBe Post x d) 20 181 := by kernel_rfl
theorem pg_from101 (Post : Value → World → Prop) (x d : Nat → UInt8) (y : Nat → AV) {n : Nat} (h1 : 101 ≤ n) (h2 : n ≤ 200) : pgIs Post x d y n = pgBe Post x d n := by
  by_cases c101 : n < 121
  · exact eachF_get 20 101 (pg_101 Post x d y) n (by omega) c101
  by_cases c121 : n < 141
  · exact eachF_get 20 121 (pg_121 Post x d y) n (by omega) c121
  by_cases c141 : n < 161
  · exact eachF_get 20 141 (pg_141 Post x d y) n (by omega) c141
  by_cases c161 : n < 181
  · exact eachF_get 20 161 (pg_161 Post x d y) n (by omega) c161
  exact eachF_get 20 181 (pg_181 Post x d y) n (by omega) (by omega)
end
end Go.Cx

