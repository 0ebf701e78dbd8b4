/-
  gzip.Parse, lengths 101 to 200.
-/
import Derived.Test.YtdhakdifgcepoaaGreatDoorM09
/-
  gzip.Parse, lengths 101 to 200.
-/
namespace Go.Cx
noncomputable section
open Go Go.Proofs Go.Conc
set_option maxRecDepth 100000
theorem pb_101 (Post : Value → World → Prop) (x d : Nat → UInt8) (y : Nat → AV) : eachF (pbIs Post x d y) 20 101 = eachF (pbBe Post x d) 20 101 := by kernel_rfl
theorem pb_121 (Post : Value → World → Prop) (x d : Nat → UInt8) (y : Nat → AV) : eachF (pbIs Post x d y) 20 121 = eachF (pbBe Post x d) 20 121 := by kernel_rfl
theorem pb_141 (Post : Value → World → Prop) (x d : Nat → UInt8) (y : Nat → AV) : eachF (pbIs Post x d y) 20 141 = eachF (pbBe Post x d) 20 141 := by kernel_rfl
theorem pb_161 (Post : Value → World → Prop) (x d : Nat → UInt8) (y : Nat → AV) : eachF (pbIs Post x d y) 20 161 = eachF (pbBe Post x d) 20 161 := by kernel_rfl
theorem pb_181 (Post : Value → World → Prop) (x d : Nat → UInt8) (y : Nat → AV) : eachF (pbIs Post x d y) 20 181 = eachF (pbBe Post x d) 20 181 := by kernel_rfl
theorem pb_from101 (Post : Value → World → Prop) (x d : Nat → UInt8) (y : Nat → AV) {n : Nat} (h1 : 101 ≤ n) (h2 : n ≤ 200) : pbIs Post x d y n = pbBe Post x d n := by
  by_cases c101 : n < 121
  · exact eachF_get 20 101 (pb_101 Post x d y) n (by omega) c101
  by_cases c121 : n < 141
  · exact eachF_get 20 121 (pb_121 Post x d y) n (by omega) c121
  by_cases c141 : n < 161
  · exact eachF_get 20 141 (pb_141 Post x d y) n (by omega) c141
  by_cases c161 : n < 181
  · exact eachF_get 20 161 (pb_161 Post x d y) n (by omega) c161
  exact eachF_get 20 181 (pb_181 Post x d y) n (by omega) (by omega)
end
end Go.Cx

