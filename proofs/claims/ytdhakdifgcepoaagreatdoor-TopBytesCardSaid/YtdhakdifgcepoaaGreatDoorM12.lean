/-
  gzip.Parse, lengths 201 to 300.
-/
import Derived.Test.YtdhakdifgcepoaaGreatDoorM09
/-
  gzip.Parse, lengths 201 to 300.
-/
namespace Go.Cx
noncomputable section
open Go Go.Proofs Go.Conc
set_option maxRecDepth 100000
theorem pg_201 (Post : Value → World → Prop) (x d : Nat → UInt8) (y : Nat → AV) : eachF (pgIs Post x d y) 20 201 = eachF (pgBe Post x d) 20 201 := by kernel_rfl
theorem pg_221 (Post : Value → World → Prop) (x d : Nat → UInt8) (y : Nat → AV) : eachF (pgIs Post x d y) 20 221 = eachF (pgBe Post x d) 20 221 := by kernel_rfl
theorem pg_241 (Post : Value → World → Prop) (x d : Nat → UInt8) (y : Nat → AV) : eachF (pgIs Post x d y) 20 241 = eachF (pgBe Post x d) 20 241 := by kernel_rfl
theorem pg_261 (Post : Value → World → Prop) (x d : Nat → UInt8) (y : Nat → AV) : eachF (pgIs Post x d y) 20 261 = eachF (pgBe Post x d) 20 261 := by kernel_rfl
theorem pg_281 (Post : Value → World → Prop) (x d : Nat → UInt8) (y : Nat → AV) : eachF (pgIs Post x d y) 20 281 = eachF (pgBe Post x d) 20 281 := by kernel_rfl
theorem pg_from201 (Post : Value → World → Prop) (x d : Nat → UInt8) (y : Nat → AV) {n : Nat} (h1 : 201 ≤ n) (h2 : n ≤ 300) : pgIs Post x d y n = pgBe Post x d n := by
  by_cases c201 : n < 221
  · exact eachF_get 20 201 (pg_201 Post x d y) n (by omega) c201
  by_cases c221 : n < 241
  · exact eachF_get 20 221 (pg_221 Post x d y) n (by omega) c221
  by_cases c241 : n < 261
  · exact eachF_get 20 241 (pg_241 Post x d y) n (by omega) c241
  by_cases c261 : n < 281
  · exact eachF_get 20 261 (pg_261 Post x d y) n (by omega) c261
  exact eachF_get 20 281 (pg_281 Post x d y) n (by omega) (by omega)
end
end Go.Cx

