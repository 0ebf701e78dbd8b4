/-
  gzip.Parse, lengths 201 to 300.
-/
import Derived.Test.YtdhakdifgcepoaaGreatDoorM09
/-
  gzip.Parse, lengths 201 to 300.
-/
namespace Go.Cx
noncomputable section
open Go Go.Proofs Go.Conc
set_option maxRecDepth 100000
theorem pb_201 (Post : Value → World → Prop) (x d : Nat → UInt8) (y : Nat → AV) : eachF (pbIs Post x d y) 20 201 = eachF (pbBe Post x d) 20 201 := by kernel_rfl
theorem pb_221 (Post : Value → World → Prop) (x d : Nat → UInt8) (y : Nat → AV) : eachF (pbIs Post x d y) 20 221 = eachF (pbBe Post x d) 20 221 := by kernel_rfl
theorem pb_241 (Post : Value → World → Prop) (x d : Nat → UInt8) (y : Nat → AV) : eachF (pbIs Post x d y) 20 241 = eachF (pbBe Post x d) 20 241 := by kernel_rfl
theorem pb_261 (Post : Value → World → Prop) (x d : Nat → UInt8) (y : Nat → AV) : eachF (pbIs Post x d y) 20 261 = eachF (pbBe Post x d) 20 261 := by kernel_rfl
theorem pb_281 (Post : Value → World → Prop) (x d : Nat → UInt8) (y : Nat → AV) : eachF (pbIs Post x d y) 20 281 = eachF (pbBe Post x d) 20 281 := by kernel_rfl
theorem pb_from201 (Post : Value → World → Prop) (x d : Nat → UInt8) (y : Nat → AV) {n : Nat} (h1 : 201 ≤ n) (h2 : n ≤ 300) : pbIs Post x d y n = pbBe Post x d n := by
  by_cases c201 : n < 221
  · exact eachF_get 20 201 (pb_201 Post x d y) n (by omega) c201
  by_cases c221 : n < 241
  · exact eachF_get 20 221 (pb_221 Post x d y) n (by omega) c221
  by_cases c241 : n < 261
  · exact eachF_get 20 241 (pb_241 Post x d y) n (by omega) c241
  by_cases c261 : n < 281
  · exact eachF_get 20 261 (pb_261 Post x d y) n (by omega) c261
  exact eachF_get 20 281 (pb_281 Post x d y) n (by omega) (by omega)
end
end Go.Cx

