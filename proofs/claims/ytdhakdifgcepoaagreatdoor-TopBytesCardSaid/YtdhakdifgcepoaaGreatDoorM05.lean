/-
  THE FUNCTIONS BEHIND errors.As, IN THIS PROGRAM: closed facts of them, and that the oracle is borne out.
-/
import Derived.Test.YtdhakdifgcepoaaGreatDoorProg
import Derived.KernelRfl
import Derived.Test.YtdhakdifgcepoaaGreatDoorM03
/-
  THE FUNCTIONS BEHIND errors.As, IN THIS PROGRAM: closed facts of them, and that the oracle is borne out.
-/
namespace Go.Cx
noncomputable section
open Go Go.Proofs Go.Conc
noncomputable abbrev Q : Program := Tryz.prog
def newK {α : Type} [Inhabited α] : Option (List Ev × Sem α) → Nat → Sem α
  | some (_, .new _ k) => k
  | _ => fun _ => .pure default
def storeK {α : Type} [Inhabited α] : Option (List Ev × Sem α) → Sem α
  | some (_, .store _ _ _ k) => k
  | _ => .pure default
def tyV (t : Nat) : Value := .iface 437 (.agg #[.pointer (some ⟨7, t, none⟩)])
def vrV (t : Nat) (a : Addr) (fl : Int) : Value := .agg #[.pointer (some ⟨7, t, none⟩), .pointer (some a), .int .u64 fl]
theorem c248 (t : Nat) (p : Addr) (ht : t = 268 ∨ t = 143) : peel Q 400 (callFunc 248 #[.iface t (.pointer (some p))]) [] = some ([.mark (.extern 248)], .new (.cells #[.pointer (some p)] t) (newK (peel Q 400 (callFunc 248 #[.iface t (.pointer (some p))]) []))) := by
  rcases ht with rfl | rfl <;> kernel_rfl
theorem c248' (t : Nat) (p : Addr) (ht : t = 268 ∨ t = 143) (r : Nat) : peel Q 400 (newK (peel Q 400 (callFunc 248 #[.iface t (.pointer (some p))]) []) r) [] = some ([], .pure (Next.value (vrV t ⟨r, 0, none⟩ 150))) := by
  rcases ht with rfl | rfl <;> kernel_rfl
theorem c322 (t : Nat) (v : Value) (ht : t = 540 ∨ t = 143) : peel Q 400 (callFunc 322 #[.iface t v]) [] = some ([.mark (.extern 322)], .pure (Next.value (tyV t))) := by
  rcases ht with rfl | rfl <;> kernel_rfl
theorem c249 (a : Addr) : peel Q 400 (callFunc 249 #[vrV 268 a 150]) [] = some ([.mark (.extern 249)], .pure (Next.value (tyV 268))) := by kernel_rfl
theorem c250 (a p : Addr) : peel Q 400 (callFunc 250 #[vrV 268 a 150]) [.pointer (some p)] = some ([.mark (.extern 250), .ld .plain a (.pointer (some p))], .pure (Next.value (.bool false))) := by kernel_rfl
theorem c323 (a p : Addr) : peel Q 400 (callFunc 323 #[vrV 268 a 150]) [.pointer (some p)] = some ([.mark (.extern 323), .ld .plain a (.pointer (some p))], .pure (Next.value (vrV 143 p 406))) := by kernel_rfl
theorem c324 (a b p : Addr) : peel Q 400 (callFunc 324 #[vrV 143 a 406, vrV 143 b 150]) [.pointer (some p)] = some ([.mark (.extern 324), .ld .plain b (.pointer (some p))], .store .plain a (.pointer (some p)) (storeK (peel Q 400 (callFunc 324 #[vrV 143 a 406, vrV 143 b 150]) [.pointer (some p)]))) := by kernel_rfl
theorem c324' (a b p : Addr) : peel Q 400 (storeK (peel Q 400 (callFunc 324 #[vrV 143 a 406, vrV 143 b 150]) [.pointer (some p)])) [] = some ([], .pure (Next.value (.tuple #[]))) := by kernel_rfl
def extFn : Option (List Ev × Sem Next) → FuncId
  | some (.mark (.extern f) :: _, _) => f
  | _ => 0
theorem cKind (t : Nat) (ht : t = 268 ∨ t = 143) : peel Q 400 (callMethod (tyV t) "Kind" #[]) [] = some ([.mark (.extern (extFn (peel Q 400 (callMethod (tyV t) "Kind" #[]) [])))], .pure (Next.value (.int .u8 22))) := by
  rcases ht with rfl | rfl <;> kernel_rfl
theorem cElem : peel Q 400 (callMethod (tyV 268) "Elem" #[]) [] = some ([.mark (.extern 499)], .pure (Next.value (tyV 143))) := by kernel_rfl
theorem cImpl : peel Q 400 (callMethod (tyV 143) "Implements" #[tyV 32]) [] = some ([.mark (.extern 500)], .pure (Next.value (.bool true))) := by kernel_rfl
theorem cAsg1 : peel Q 400 (callMethod (tyV 143) "AssignableTo" #[tyV 143]) [] = some ([.mark (.extern 497)], .pure (Next.value (.bool true))) := by kernel_rfl
theorem cAsg2 : peel Q 400 (callMethod (tyV 540) "AssignableTo" #[tyV 143]) [] = some ([.mark (.extern 497)], .pure (Next.value (.bool false))) := by kernel_rfl
end
end Go.Cx

