/-
  TopBytes: WHAT STANDS AHEAD OF THE CHANGE. ..
-/
import Derived.Test.YtdhakdifgcepoaaGreatDoorM09
import Derived.Test.YtdhakdifgcepoaaGreatDoorM16
import Derived.Test.YtdhakdifgcepoaaGreatDoorM21
/-
  TopBytes: WHAT STANDS AHEAD OF THE CHANGE.
-/
namespace Go.Cx
noncomputable section
open Go Go.Proofs Go.Conc
/-- The lent blocks, with the table of bits told too. -/
noncomputable def lent12t : List ABlk := lent12.take 6 ++ con29.lent.drop 6 ++ lent12.drop 7
noncomputable def h12t : AH := heapOf lent12t
noncomputable def LA (h : AH) : Bool := (List.range 7).all (fun b => Nat.blt b h.n) && lentAll (List.range 7) h (heapOf con29.lent) (List.range 7) 0
noncomputable def tpOv (l A : List UInt8) (a _b : Nat) : Nat → Nat → Option Ov
  | 1, 2 => some (.pure (.bool false))
  | 1, 6 => some (.pure (.bool false))
  | 3, 1 => some (.told 15 [.str l, .int .i64 (.ofNat 400)] (.str A) L7 (fun h => h))
  | 4, 1 => some (.told 33 [.str A] (.tuple [.agg (infoA l.length l 12), .agg [.nilIface]]) (LN 12) (fun h => { n := 13, t := h.t.puts 12 [startB] }))
  | 5, 1 => some (.pure (.int .i64 (.ofNat a)))
  | 5, 4 => some (.pure (.int .i64 (.ofNat (a % l.length))))
  | 5, 5 => some (.pure (.int .i64 (.ofNat (15 + a % l.length))))
  | 6, 7 => some (.pure (.bool false))
  | 6, 14 => some (.pure (.int .i64 (.ofNat (15 + l.length))))
  | 6, 15 => some (.pure (.int .i64 (.ofNat (23 + l.length))))
  | 6, 16 => some (.pure (.bool false))
  | _, _ => none
noncomputable def tpPre : List Code := [cfst (bodyOf Tryz.f7), cfst (csnd (bodyOf Tryz.f7)), cfst (csnd (csnd (bodyOf Tryz.f7))), cfst (csnd (csnd (csnd (bodyOf Tryz.f7)))), cfst (csnd (csnd (csnd (csnd (bodyOf Tryz.f7))))), cfst (csnd (csnd (csnd (csnd (csnd (bodyOf Tryz.f7))))))]
noncomputable def tpRest : Code := (csnd (csnd (csnd (csnd (csnd (csnd (bodyOf Tryz.f7)))))))
theorem tp_code : bodyOf Tryz.f7 = seqs tpPre tpRest := by kernel_rfl
noncomputable def tpR (Post : Value → World → Prop) (l A : List UInt8) (a b : Nat) (x : Nat → AV) : Option (Ex × AS × List Prop) := EX Post (tpOv l A a b) (seqs tpPre .skip) { t := T.ofList (.str l :: .int .u16 (.ofNat a) :: .int .u8 (.ofNat b) :: x 3 :: x 4 :: x 5 :: x 6 :: x 7 :: x 8 :: x 9 :: x 10 :: x 11 :: x 12 :: x 13 :: x 14 :: x 15 :: x 16 :: x 17 :: x 18 :: x 19 :: x 20 :: x 21 :: x 22 :: x 23 :: x 24 :: x 25 :: x 26 :: x 27 :: x 28 :: x 29 :: x 30 :: x 31 :: x 32 :: x 33 :: x 34 :: x 35 :: x 36 :: x 37 :: x 38 :: x 39 :: x 40 :: x 41 :: x 42 :: x 43 :: x 44 :: x 45 :: x 46 :: x 47 :: x 48 :: x 49 :: x 50 :: x 51 :: x 52 :: x 53 :: x 54 :: x 55 :: x 56 :: x 57 :: x 58 :: x 59 :: x 60 :: x 61 :: x 62 :: x 63 :: x 64 :: x 65 :: x 66 :: x 67 :: x 68 :: x 69 :: x 70 :: x 71 :: x 72 :: x 73 :: x 74 :: x 75 :: x 76 :: x 77 :: x 78 :: x 79 :: x 80 :: x 81 :: x 82 :: x 83 :: x 84 :: x 85 :: []), n := 86, h := h12t, s := none }
theorem tp_def (Post : Value → World → Prop) (l A : List UInt8) (a b : Nat) (x : Nat → AV) : tpR Post l A a b x = EX Post (tpOv l A a b) (seqs tpPre .skip) { t := T.ofList (.str l :: .int .u16 (.ofNat a) :: .int .u8 (.ofNat b) :: x 3 :: x 4 :: x 5 :: x 6 :: x 7 :: x 8 :: x 9 :: x 10 :: x 11 :: x 12 :: x 13 :: x 14 :: x 15 :: x 16 :: x 17 :: x 18 :: x 19 :: x 20 :: x 21 :: x 22 :: x 23 :: x 24 :: x 25 :: x 26 :: x 27 :: x 28 :: x 29 :: x 30 :: x 31 :: x 32 :: x 33 :: x 34 :: x 35 :: x 36 :: x 37 :: x 38 :: x 39 :: x 40 :: x 41 :: x 42 :: x 43 :: x 44 :: x 45 :: x 46 :: x 47 :: x 48 :: x 49 :: x 50 :: x 51 :: x 52 :: x 53 :: x 54 :: x 55 :: x 56 :: x 57 :: x 58 :: x 59 :: x 60 :: x 61 :: x 62 :: x 63 :: x 64 :: x 65 :: x 66 :: x 67 :: x 68 :: x 69 :: x 70 :: x 71 :: x 72 :: x 73 :: x 74 :: x 75 :: x 76 :: x 77 :: x 78 :: x 79 :: x 80 :: x 81 :: x 82 :: x 83 :: x 84 :: x 85 :: []), n := 86, h := h12t, s := none } := by kernel_rfl
theorem tp_run (Post : Value → World → Prop) (l A : List UInt8) (a b : Nat) (x : Nat → AV) : tpR Post l A a b x = some (.normal, { t := tOf (tpR Post l A a b x), n := 86, h := hOf (tpR Post l A a b x), s := none },
    [∀ h, retV h (aBin Q .eql 3 true (.int .i64 (.ofNat l.length)) (.int .i64 (.ofNat 0))) = some (.val (.bool false), h),
     ∀ h, retV h (aBin Q .gtr 3 true (.int .i64 (.ofNat l.length)) (.int .i64 (.ofNat 300))) = some (.val (.bool false), h),
     (∀ h : AH, some (ARes.call 15 [.str l, .int .i64 (.ofNat 400)], h) = some (ARes.call 15 [.str l, .int .i64 (.ofNat 400)], h)) ∧ ∀ h : AH, L7 h = true → SndF Q Post 15 [.str l, .int .i64 (.ofNat 400)] h none (.str A) (h) none,
     (∀ h : AH, some (ARes.call 33 [.str A], h) = some (ARes.call 33 [.str A], h)) ∧ ∀ h : AH, LN 12 h = true → SndF Q Post 33 [.str A] h none (.tuple [.agg (infoA l.length l 12), .agg [.nilIface]]) ({ n := 13, t := h.t.puts 12 [startB] }) none,
     ∀ h, aConvert Q h 22 3 (.int .u16 (.ofNat a)) = some (.val (.int .i64 (.ofNat a)), h),
     ∀ h, retV h (aBin Q .rem 3 false (.int .i64 (.ofNat a)) (.int .i64 (.ofNat l.length))) = some (.val (.int .i64 (.ofNat (a % l.length))), h),
     ∀ h, retV h (aBin Q .add 3 true (.int .i64 (.ofNat 15)) (.int .i64 (.ofNat (a % l.length)))) = some (.val (.int .i64 (.ofNat (15 + a % l.length))), h),
     ∀ h, retV h (aBin Q .neq 9 false (.str l) (.str l)) = some (.val (.bool false), h),
     ∀ h, retV h (aBin Q .add 3 true (.int .i64 (.ofNat 15)) (.int .i64 (.ofNat l.length))) = some (.val (.int .i64 (.ofNat (15 + l.length))), h),
     ∀ h, retV h (aBin Q .add 3 true (.int .i64 (.ofNat (15 + l.length))) (.int .i64 (.ofNat 8))) = some (.val (.int .i64 (.ofNat (23 + l.length))), h),
     ∀ h, retV h (aBin Q .neq 3 false (.int .i64 (.ofNat A.length)) (.int .i64 (.ofNat (23 + l.length)))) = some (.val (.bool false), h)]) := by kernel_rfl
end
end Go.Cx

/-
  TopBytes: THE CHANGE.
-/
namespace Go.Cx
noncomputable section
open Go Go.Proofs Go.Conc
noncomputable def tcOv (l _A : List UInt8) (a b : Nat) (p1 p2 p3 A2 : List UInt8) (y z : Nat) : Nat → Option Ov
  | 2 => some (.pure (.str p1))
  | 5 => some (.pure (byteV y))
  | 7 => some (.pure (.int .u8 (.ofNat (b % 8))))
  | 8 => some (.pure (.int .u8 (.ofNat (2 ^ (b % 8)))))
  | 9 => some (.pure (byteV z))
  | 12 => some (.pure (.str p2))
  | 15 => some (.pure (.int .i64 (.ofNat (16 + a % l.length))))
  | 16 => some (.pure (.str p3))
  | 17 => some (.pure (.str A2))
  | _ => none
noncomputable def tcOps : Array Oper := match cfst tpRest with | .region _ ops _ => ops | _ => #[]
noncomputable def tcSg : List Stage := (stagesOf Q tcOps).getD []
theorem tc_code : tpRest = .seq (.region 8 tcOps true) (csnd tpRest) := by kernel_rfl
theorem tc_sg : stagesOf Q tcOps = some tcSg := by kernel_rfl
noncomputable def tcT (n : Nat) (A2 : List UInt8) : Told := { c := 18, f := 33, args := [.str A2], v := .tuple [.agg zeroInfo, .agg [.iface 143 (.ptr (some (22, 0)))]], L := LN 22, g := fun h => { n := 22 + 1, t := h.t.puts 22 [linkB n] } }
noncomputable def tcSt (Post : Value → World → Prop) (l A : List UInt8) (a b : Nat) : AS := { t := tOf (tpR Post l A a b (fun _ => .tuple [])), n := 86, h := hOf (tpR Post l A a b (fun _ => .tuple [])), s := none }
noncomputable def tcR (Post : Value → World → Prop) (l A : List UInt8) (a b : Nat) (p1 p2 p3 A2 : List UInt8) (y z : Nat) : Option (AS × List Prop) := wDrawn Q (orcX []) tcOps (tcOv l A a b p1 p2 p3 A2 y z) (tcT l.length A2) tcSg (tcSt Post l A a b)
def wT : Option (AS × List Prop) → T AV | some (st, _) => st.t | none => .nil
def wHp : Option (AS × List Prop) → AH | some (st, _) => st.h | none => { n := 0, t := .nil }
theorem tc_run (Post : Value → World → Prop) (l A : List UInt8) (a b : Nat) (p1 p2 p3 A2 : List UInt8) (y z : Nat) : tcR Post l A a b p1 p2 p3 A2 y z = some ({ t := wT (tcR Post l A a b p1 p2 p3 A2 y z), n := 86, h := wHp (tcR Post l A a b p1 p2 p3 A2 y z), s := none },
    [∀ h, retV h (aSlice Q 9 (.str A) none (some (.int .i64 (.ofNat (15 + a % l.length)))) none) = some (.val (.str p1), h),
     ∀ h, retV h (aIndex Q 9 (.str A) (.int .i64 (.ofNat (15 + a % l.length)))) = some (.val (byteV y), h),
     ∀ h, retV h (aBin Q .rem 5 true (.int .u8 (.ofNat b)) (.int .u8 (.ofNat 8))) = some (.val (.int .u8 (.ofNat (b % 8))), h),
     ∀ h, retV h (aBin Q .shl 5 true (.int .u8 (.ofNat 1)) (.int .u8 (.ofNat (b % 8)))) = some (.val (.int .u8 (.ofNat (2 ^ (b % 8)))), h),
     ∀ h, retV h (aBin Q .xor 5 false (byteV y) (.int .u8 (.ofNat (2 ^ (b % 8))))) = some (.val (byteV z), h),
     ∀ h, retV h (aBin Q .add 9 false (.str p1) (.str [UInt8.ofNat z])) = some (.val (.str p2), h),
     ∀ h, retV h (aBin Q .add 3 true (.int .i64 (.ofNat (15 + a % l.length))) (.int .i64 (.ofNat 1))) = some (.val (.int .i64 (.ofNat (16 + a % l.length))), h),
     ∀ h, retV h (aSlice Q 9 (.str A) (some (.int .i64 (.ofNat (16 + a % l.length)))) none none) = some (.val (.str p3), h),
     ∀ h, retV h (aBin Q .add 9 false (.str p2) (.str p3)) = some (.val (.str A2), h),
     ∀ h : AH, some (ARes.call 33 [.str A2], h) = some (ARes.call 33 [.str A2], h),
     true = true]) := by kernel_rfl
end
end Go.Cx

