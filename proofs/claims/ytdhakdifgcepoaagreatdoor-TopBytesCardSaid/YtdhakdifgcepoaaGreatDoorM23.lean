/-
  WHAT A BLAME SAYS, AND NUMBERS IN DIGITS: for each length.
-/
import Derived.Test.YtdhakdifgcepoaaGreatDoorM09
/-
  WHAT A BLAME SAYS, AND NUMBERS IN DIGITS: for each length.
-/
namespace Go.Cx
noncomputable section
open Go Go.Proofs Go.Conc
def dig (m : Nat) : List UInt8 := match Nat.blt m 100 with
  | true => [UInt8.ofNat (48 + m / 10), UInt8.ofNat (48 + m % 10)]
  | false => [UInt8.ofNat (48 + m / 100), UInt8.ofNat (48 + m / 10 % 10), UInt8.ofNat (48 + m % 10)]
def sumAt : List UInt8 := [115, 117, 109, 32, 97, 116, 32]
noncomputable def linkR (n : Nat) : ABlk := .cells 237 3 (T.ofList [.int .i64 5, .int .i64 (.ofNat (15 + n)), .iface 540 (.ptr (some (7, 0)))]) false true
abbrev SaT := Option (AV × List ABlk) × Bool
noncomputable def sayIs (n : Nat) : SaT := (conRun Q (orcX []) 3000 34 (lent12 ++ [linkR n]) [.agg [.iface 143 (.ptr (some (12, 0)))]] [], conOk Q 34 (lent12 ++ [linkR n]) [.agg [.iface 143 (.ptr (some (12, 0)))]] [])
noncomputable def sayBe (n : Nat) : SaT := (some (.str (sumAt ++ dig (15 + n)), []), true)
noncomputable def digIs (n : Nat) : SaT := (conRun Q (orcX []) 3000 35 lent7 [.int .i64 (.ofNat (15 + n))] [], conOk Q 35 lent7 [.int .i64 (.ofNat (15 + n))] [])
noncomputable def digBe (n : Nat) : SaT := (some (.str (dig (15 + n)), []), true)
def eachS (f : Nat → SaT) : Nat → Nat → List SaT
  | 0, _ => []
  | k + 1, n => f n :: eachS f k (n + 1)
theorem eachS_get {f g : Nat → SaT} : ∀ (k n : Nat), eachS f k n = eachS g k n → ∀ i, n ≤ i → i < n + k → f i = g i
  | 0, _, _, _, h1, h2 => by omega
  | k + 1, n, h, i, h1, h2 => by
    simp only [eachS, List.cons.injEq] at h
    by_cases e : i = n
    · subst e; exact h.1
    · exact eachS_get k (n + 1) h.2 i (by omega) (by omega)
set_option maxRecDepth 100000
theorem say_1 : eachS sayIs 50 1 = eachS sayBe 50 1 := by kernel_rfl
theorem say_51 : eachS sayIs 50 51 = eachS sayBe 50 51 := by kernel_rfl
theorem say_101 : eachS sayIs 50 101 = eachS sayBe 50 101 := by kernel_rfl
theorem say_151 : eachS sayIs 50 151 = eachS sayBe 50 151 := by kernel_rfl
theorem say_201 : eachS sayIs 50 201 = eachS sayBe 50 201 := by kernel_rfl
theorem say_251 : eachS sayIs 50 251 = eachS sayBe 50 251 := by kernel_rfl
theorem say_all {n : Nat} (h1 : 1 ≤ n) (h2 : n ≤ 300) : sayIs n = sayBe n := by
  by_cases c1 : n < 51
  · exact eachS_get 50 1 say_1 n (by omega) c1
  by_cases c51 : n < 101
  · exact eachS_get 50 51 say_51 n (by omega) c51
  by_cases c101 : n < 151
  · exact eachS_get 50 101 say_101 n (by omega) c101
  by_cases c151 : n < 201
  · exact eachS_get 50 151 say_151 n (by omega) c151
  by_cases c201 : n < 251
  · exact eachS_get 50 201 say_201 n (by omega) c201
  exact eachS_get 50 251 say_251 n (by omega) (by omega)
theorem dig_1 : eachS digIs 50 1 = eachS digBe 50 1 := by kernel_rfl
theorem dig_51 : eachS digIs 50 51 = eachS digBe 50 51 := by kernel_rfl
theorem dig_101 : eachS digIs 50 101 = eachS digBe 50 101 := by kernel_rfl
theorem dig_151 : eachS digIs 50 151 = eachS digBe 50 151 := by kernel_rfl
theorem dig_201 : eachS digIs 50 201 = eachS digBe 50 201 := by kernel_rfl
theorem dig_251 : eachS digIs 50 251 = eachS digBe 50 251 := by kernel_rfl
theorem dig_all {n : Nat} (h1 : 1 ≤ n) (h2 : n ≤ 300) : digIs n = digBe n := by
  by_cases c1 : n < 51
  · exact eachS_get 50 1 dig_1 n (by omega) c1
  by_cases c51 : n < 101
  · exact eachS_get 50 51 dig_51 n (by omega) c51
  by_cases c101 : n < 151
  · exact eachS_get 50 101 dig_101 n (by omega) c101
  by_cases c151 : n < 201
  · exact eachS_get 50 151 dig_151 n (by omega) c151
  by_cases c201 : n < 251
  · exact eachS_get 50 201 dig_201 n (by omega) c201
  exact eachS_get 50 251 dig_251 n (by omega) (by omega)
end
end Go.Cx

