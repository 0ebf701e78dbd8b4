/-
  TopBytes: WHAT IS ASKED OF THE CHANGE. ..
-/
import Derived.Test.YtdhakdifgcepoaaGreatDoorM04
import Derived.Test.YtdhakdifgcepoaaGreatDoorM16
import Derived.Test.YtdhakdifgcepoaaGreatDoorM22
import Derived.Test.YtdhakdifgcepoaaGreatDoorM23
/-
  TopBytes: WHAT IS ASKED OF THE CHANGE.
-/
namespace Go.Cx
noncomputable section
open Go Go.Proofs Go.Conc
noncomputable def tdOv (Post : Value → World → Prop) (l A : List UInt8) (a b : Nat) (p1 p2 p3 A2 : List UInt8) (y z : Nat) (S D : List UInt8) : Nat → Nat → Option Ov
  | 9, 1 => some (.call 34 [.agg [.iface 143 (.ptr (some (22, 0)))]] (.str S) (wHp (tcR Post l A a b p1 p2 p3 A2 y z)))
  | 9, 4 => some (.pure (.int .i64 (.ofNat (15 + l.length))))
  | 9, 5 => some (.told 35 [.int .i64 (.ofNat (15 + l.length))] (.str D) L7 (fun h => h))
  | 9, 6 => some (.pure (.str S))
  | 9, 7 => some (.pure (.bool true))
  | 9, 9 => some (.told 13 [] (.bool true) LA (fun h => h))
  | _, _ => none
noncomputable def tdSt (Post : Value → World → Prop) (l A : List UInt8) (a b : Nat) (p1 p2 p3 A2 : List UInt8) (y z : Nat) : AS := { t := wT (tcR Post l A a b p1 p2 p3 A2 y z), n := 86, h := (wHp (tcR Post l A a b p1 p2 p3 A2 y z)), s := none }
noncomputable def tdR (Post : Value → World → Prop) (l A : List UInt8) (a b : Nat) (p1 p2 p3 A2 : List UInt8) (y z : Nat) (S D : List UInt8) : Option (Ex × AS × List Prop) := EX Post (tdOv Post l A a b p1 p2 p3 A2 y z S D) (csnd tpRest) (tdSt Post l A a b p1 p2 p3 A2 y z)
theorem td_def (Post : Value → World → Prop) (l A : List UInt8) (a b : Nat) (p1 p2 p3 A2 : List UInt8) (y z : Nat) (S D : List UInt8) : tdR Post l A a b p1 p2 p3 A2 y z S D = EX Post (tdOv Post l A a b p1 p2 p3 A2 y z S D) (csnd tpRest) (tdSt Post l A a b p1 p2 p3 A2 y z) := by kernel_rfl
theorem td_run (Post : Value → World → Prop) (l A : List UInt8) (a b : Nat) (p1 p2 p3 A2 : List UInt8) (y z : Nat) (S D : List UInt8) : tdR Post l A a b p1 p2 p3 A2 y z S D = some (.ret, { t := tOf (tdR Post l A a b p1 p2 p3 A2 y z S D), n := 86, h := (wHp (tcR Post l A a b p1 p2 p3 A2 y z)), s := none },
    [some (ARes.call 34 [.agg [.iface 143 (.ptr (some (22, 0)))]], (wHp (tcR Post l A a b p1 p2 p3 A2 y z))) = some (ARes.call 34 [.agg [.iface 143 (.ptr (some (22, 0)))]], (wHp (tcR Post l A a b p1 p2 p3 A2 y z))) ∧ SndF Q Post 34 [.agg [.iface 143 (.ptr (some (22, 0)))]] (wHp (tcR Post l A a b p1 p2 p3 A2 y z)) none (.str S) (wHp (tcR Post l A a b p1 p2 p3 A2 y z)) none,
     ∀ h, retV h (aBin Q .sub 3 true (.int .i64 (.ofNat A.length)) (.int .i64 (.ofNat 8))) = some (.val (.int .i64 (.ofNat (15 + l.length))), h),
     (∀ h : AH, some (ARes.call 35 [.int .i64 (.ofNat (15 + l.length))], h) = some (ARes.call 35 [.int .i64 (.ofNat (15 + l.length))], h)) ∧ ∀ h : AH, L7 h = true → SndF Q Post 35 [.int .i64 (.ofNat (15 + l.length))] h none (.str D) (h) none,
     ∀ h, retV h (aBin Q .add 9 true (.str sumAt) (.str D)) = some (.val (.str S), h),
     ∀ h, retV h (aBin Q .eql 9 false (.str S) (.str S)) = some (.val (.bool true), h),
     (∀ h : AH, some (ARes.call 13 [], h) = some (ARes.call 13 [], h)) ∧ ∀ h : AH, LA h = true → SndF Q Post 13 [] h none (.bool true) (h) none]) := by kernel_rfl
theorem td_res (Post : Value → World → Prop) (l A : List UInt8) (a b : Nat) (p1 p2 p3 A2 : List UInt8) (y z : Nat) (S D : List UInt8) : aResults Q Tryz.f7 { t := tOf (tdR Post l A a b p1 p2 p3 A2 y z S D), n := 86, h := (wHp (tcR Post l A a b p1 p2 p3 A2 y z)), s := none } = some (.bool true) := by kernel_rfl
end
end Go.Cx

/-
  TopBytes OF A SHORT TEXT: TRUE.
-/
namespace Go.Cx
noncomputable section
open Go Go.Proofs Go.Conc

/-! ### strings -/
theorem slice_to {l : List UInt8} {j : Nat} (hj : j ≤ l.length) (h : AH) : retV h (aSlice Q 9 (.str l) none (some (.int .i64 (.ofNat j))) none) = some (.val (.str (l.take j)), h) := by
  have e : aSlice Q 9 (.str l) none (some (.int .i64 (.ofNat j))) none = match aBounds l.length l.length none (some (.int .i64 (.ofNat j))) none with
    | some (a, b, _) => some (.str ((l.drop a).take (b - a)))
    | none => none := by kernel_rfl
  refine retV_of ?_
  rw [e]
  have hb : aBounds l.length l.length none (some (.int .i64 (.ofNat j))) none = some (0, j, l.length) := by
    simp [aBounds, aBound, hj]
  rw [hb]
  simp
theorem slice_from {l : List UInt8} {j : Nat} (hj : j ≤ l.length) (h : AH) : retV h (aSlice Q 9 (.str l) (some (.int .i64 (.ofNat j))) none none) = some (.val (.str (l.drop j)), h) := by
  have e : aSlice Q 9 (.str l) (some (.int .i64 (.ofNat j))) none none = match aBounds l.length l.length (some (.int .i64 (.ofNat j))) none none with
    | some (a, b, _) => some (.str ((l.drop a).take (b - a)))
    | none => none := by kernel_rfl
  refine retV_of ?_
  rw [e]
  have hb : aBounds l.length l.length (some (.int .i64 (.ofNat j))) none none = some (j, l.length, l.length) := by
    simp [aBounds, aBound, hj]
  rw [hb]
  have : (l.drop j).take (l.length - j) = l.drop j := List.take_of_length_le (by simp)
  simp only [this]
theorem conv_22_3 (h : AH) {a : Nat} (ha : a < 65536) : aConvert Q h 22 3 (.int .u16 (.ofNat a)) = some (.val (.int .i64 (.ofNat a)), h) := by
  have e : aConvert Q h 22 3 (.int .u16 (.ofNat a)) = some (.val (.int .i64 (IntKind.i64.wrap (.ofNat a))), h) := by kernel_rfl
  rw [e, wrap_lim .i64 a (show a < 9223372036854775808 by omega)]
theorem str_neq (l : List UInt8) (h : AH) : retV h (aBin Q .neq 9 false (.str l) (.str l)) = some (.val (.bool false), h) := by
  have e : aBin Q .neq 9 false (.str l) (.str l) = some (.bool (!(l == l))) := by kernel_rfl
  rw [e]; simp [retV]
theorem str_eql (l : List UInt8) (h : AH) : retV h (aBin Q .eql 9 false (.str l) (.str l)) = some (.val (.bool true), h) := by
  have e : aBin Q .eql 9 false (.str l) (.str l) = some (.bool (l == l)) := by kernel_rfl
  rw [e]; simp [retV]
theorem str_add {a b : List UInt8} {c : Bool} (hl : a.length + b.length ≤ 1000000) (h : AH) : retV h (aBin Q .add 9 c (.str a) (.str b)) = some (.val (.str (a ++ b)), h) := by
  have e : aBin Q .add 9 c (.str a) (.str b) = if a.length + b.length ≤ strMax then some (.str (a ++ b)) else none := by kernel_rfl
  refine retV_of ?_
  rw [e, if_pos (by unfold strMax; omega)]

/-! ### heaps -/
theorem L7_n {h : AH} (hL : L7 h = true) : 7 ≤ h.n ∧ lentAll (List.range 7) h h7 (List.range 7) 0 = true := by
  unfold L7 at hL
  simp only [Bool.and_eq_true, List.all_eq_true, Nat.blt_eq] at hL
  exact ⟨by have := hL.1 6 (by simp); omega, hL.2⟩
theorem alive_over (Post : Value → World → Prop) (h : AH) (hL : LA h = true) : SndF Q Post 13 [] h none (.bool true) h none := by
  unfold LA at hL
  simp only [Bool.and_eq_true, List.all_eq_true, Nat.blt_eq] at hL
  exact SndF.frame (P := Q) (h := h) (m := List.range 7) (ids := []) (blks := []) (args' := []) (con29_ok Post) hL.1 List.nodup_range rfl (fun g hg => by
    rw [q_globals] at hg
    rw [List.getElem?_range (by omega)]) (heapOf_out _) hL.2 rfl List.nodup_nil (by simp) rfl (by rfl)
theorem dig_over (Post : Value → World → Prop) {n : Nat} (h1 : 1 ≤ n) (h2 : n ≤ 300) (h : AH) (hL : L7 h = true) : SndF Q Post 35 [.int .i64 (.ofNat (15 + n))] h none (.str (dig (15 + n))) h none := by
  have e := dig_all h1 h2
  unfold digIs digBe at e
  simp only [Prod.mk.injEq] at e
  have hc := conRun_sound q_mixed (orcX_ok TabsOk.nil) e.1 e.2
  obtain ⟨hn, hl⟩ := L7_n hL
  exact frame7 (hc Post) (by rfl) (by rfl) hn hl
theorem say_over (Post : Value → World → Prop) {n : Nat} (h1 : 1 ≤ n) (h2 : n ≤ 300) (h : AH) (hn : 22 < h.n) (hL : lentAll (List.range 12 ++ [22]) h (heapOf (lent12 ++ [linkR n])) (List.range 12 ++ [22]) 0 = true) :
    SndF Q Post 34 [.agg [.iface 143 (.ptr (some (22, 0)))]] h none (.str (sumAt ++ dig (15 + n))) h none := by
  have e := say_all h1 h2
  unfold sayIs sayBe at e
  simp only [Prod.mk.injEq] at e
  have hc := conRun_sound q_mixed (orcX_ok TabsOk.nil) e.1 e.2
  exact SndF.frame (P := Q) (h := h) (m := List.range 12 ++ [22]) (ids := []) (blks := []) (hc Post) (fun c hc => by
    simp only [List.mem_append, List.mem_range, List.mem_singleton] at hc
    omega) (by decide) rfl (fun g hg => by
    rw [q_globals] at hg
    rw [List.getElem?_append_left (by simp; omega), List.getElem?_range (by omega)]) (heapOf_out _) hL (by rfl) List.nodup_nil (by simp) rfl (by rfl)

/-! ### the change -/
theorem xor_ne {y b : Nat} (hy : y < 256) : y ^^^ 2 ^ (b % 8) < 256 ∧ y ^^^ 2 ^ (b % 8) ≠ y := by
  have hp : 2 ^ (b % 8) < 256 := by
    have : b % 8 ≤ 7 := by omega
    have := Nat.pow_le_pow_right (n := 2) (by decide) this
    omega
  refine ⟨byte_xor hy hp, fun h => ?_⟩
  have h2 : y ^^^ 2 ^ (b % 8) = y ^^^ 0 := by rw [h, Nat.xor_zero]
  have := xor_same h2
  have hpos : 0 < 2 ^ (b % 8) := Nat.pow_pos (by decide)
  omega
def swap (l : List UInt8) (j : Nat) (z : UInt8) : List UInt8 := l.take j ++ z :: l.drop (j + 1)
theorem swap_length {l : List UInt8} {j : Nat} (hj : j < l.length) (z : UInt8) : (swap l j z).length = l.length := by
  simp [swap]; omega
theorem self_swap {l : List UInt8} {j : Nat} (hj : j < l.length) : l = l.take j ++ l[j] :: l.drop (j + 1) := by
  rw [← List.drop_eq_getElem_cons hj, List.take_append_drop]
def ahead (l : List UInt8) : List UInt8 := hdr ++ [UInt8.ofNat 1, UInt8.ofNat (l.length % 256), UInt8.ofNat (l.length / 256), UInt8.ofNat ((65535 - l.length) % 256), UInt8.ofNat ((65535 - l.length) / 256)]
theorem ahead_length (l : List UInt8) : (ahead l).length = 15 := rfl
theorem arcF_parts (l : List UInt8) (c : Nat) : arcF l c = ahead l ++ (l ++ (le4 c ++ le4 l.length)) := by
  unfold arcF ahead
  rw [storedS_eq]
  simp only [List.append_assoc, List.cons_append, List.nil_append]
theorem arc_take {l : List UInt8} {c j : Nat} (hj : j < l.length) : (arcF l c).take (15 + j) = ahead l ++ l.take j := by
  rw [arcF_parts, List.take_append, ahead_length, List.take_of_length_le (by rw [ahead_length]; omega), show 15 + j - 15 = j by omega, List.take_append_of_le_length (by omega)]
theorem arc_drop {l : List UInt8} {c j : Nat} (hj : j < l.length) : (arcF l c).drop (16 + j) = l.drop (j + 1) ++ (le4 c ++ le4 l.length) := by
  rw [arcF_parts, List.drop_append, ahead_length, List.drop_of_length_le (by rw [ahead_length]; omega), show 16 + j - 15 = j + 1 by omega, List.drop_append_of_le_length (by omega), List.nil_append]
theorem arc_get {l : List UInt8} {c j : Nat} (hj : j < l.length) : (arcF l c)[15 + j]? = some l[j] := by
  rw [arcF_parts, List.getElem?_append_right (by rw [ahead_length]; omega), ahead_length, show 15 + j - 15 = j by omega, List.getElem?_append_left hj, List.getElem?_eq_getElem hj]
theorem arc_swap {l : List UInt8} {c j : Nat} (hj : j < l.length) (z : UInt8) : ((arcF l c).take (15 + j) ++ [z]) ++ (arcF l c).drop (16 + j) = arcF (swap l j z) c := by
  rw [arc_take hj, arc_drop hj, arcF_parts (swap l j z), swap_length hj]
  have : ahead (swap l j z) = ahead l := by unfold ahead; rw [swap_length hj]
  rw [this]
  simp only [swap, List.append_assoc, List.cons_append, List.nil_append]
theorem arcF_length (l : List UInt8) (c : Nat) : (arcF l c).length = 23 + l.length := by
  rw [arcF_parts]
  simp [ahead_length, le4_length]; omega

/-! ### all of it -/
theorem beq_false {a b : Nat} (h : a ≠ b) : (a == b) = false := by simp [h]
theorem wDrawn_run {Post : Value → World → Prop} {R : Option (AS × List Prop)} {ops : Array Oper} {ov : Nat → Option Ov} {t : Told} {sg : List Stage} {id : Nat} {st st' : AS} {ps : List Prop} (hR : R = wDrawn Q (orcX []) ops ov t sg st) (h1 : stagesOf Q ops = some sg) (h2 : R = some (st', ps)) (hp : All ps)
    (hs : ∀ h, t.L h = true → SndF Q Post t.f t.args h none t.v (t.g h) none) : SndC Q Post (.region id ops true) st .normal st' :=
  wDrawn_sound q_mixed (orcX_ok TabsOk.nil Post) h1 (hR ▸ h2) hp hs
theorem seqs_run {Post : Value → World → Prop} {R : Option (Ex × AS × List Prop)} {ov : Nat → Nat → Option Ov} {l : List Code} {r : Code} {st st1 st2 : AS} {ps : List Prop} {e : Ex} (hR : R = EX Post ov (seqs l .skip) st) (h : R = some (.normal, st1, ps)) (hp : All ps) (hr : SndC Q Post r st1 e st2) : SndC Q Post (seqs l r) st e st2 :=
  seqs_sound q_mixed (orcX_ok TabsOk.nil Post) l 200 r st st1 ps e st2 (hR ▸ h) hp hr
set_option maxRecDepth 100000 in
theorem topbytes_long (Post : Value → World → Prop) {l : List UInt8} {a b : Nat} (h1 : 1 ≤ l.length) (h2 : l.length ≤ 300) (ha : a < 65536) (_hb : b < 256) :
    BodyS Q Post Tryz.f7 (bodyOf Tryz.f7) [.str l, .int .u16 (.ofNat a), .int .u8 (.ofNat b)] h12t (.bool true) := by
  have hj : a % l.length < l.length := Nat.mod_lt _ h1
  have hy : (l[a % l.length]).toNat < 256 := (l[a % l.length]).toNat_lt
  obtain ⟨hz, hzy⟩ := xor_ne (b := b) hy
  have hAl : (archF l).length = 23 + l.length := by rw [← arcF_crc, arcF_length]
  have h0 : l ≠ [] := fun h => by rw [h] at h1; simp at h1
  -- the change
  have hsw := arc_swap (l := l) (c := crcF l) hj (UInt8.ofNat ((l[a % l.length]).toNat ^^^ 2 ^ (b % 8)))
  rw [arcF_crc] at hsw
  have hsl := swap_length hj (UInt8.ofNat ((l[a % l.length]).toNat ^^^ 2 ^ (b % 8)))
  have hne : crcF l ≠ crcF (swap l (a % l.length) (UInt8.ofNat ((l[a % l.length]).toNat ^^^ 2 ^ (b % 8)))) := by
    have := crcF_ne (l.take (a % l.length)) (l.drop (a % l.length + 1)) (b := l[a % l.length]) (b' := UInt8.ofNat ((l[a % l.length]).toNat ^^^ 2 ^ (b % 8))) (fun h => by
      have e := congrArg UInt8.toNat h
      rw [UInt8.toNat_ofNat', Nat.mod_eq_of_lt (show _ < 2 ^ 8 from hz)] at e
      exact hzy e.symm)
    rw [← self_swap hj] at this
    exact this
  have htk : ((archF l).take (15 + a % l.length)).length = 15 + a % l.length := by rw [List.length_take, hAl]; omega
  have hdr : ((archF l).drop (16 + a % l.length)).length ≤ 400 := by rw [List.length_drop, hAl]; omega
  obtain ⟨p1, hp1⟩ : ∃ p, p = (archF l).take (15 + a % l.length) := ⟨_, rfl⟩
  obtain ⟨p3, hp3⟩ : ∃ p, p = (archF l).drop (16 + a % l.length) := ⟨_, rfl⟩
  obtain ⟨y, hy0⟩ : ∃ p, p = (l[a % l.length]).toNat := ⟨_, rfl⟩
  obtain ⟨z, hz0⟩ : ∃ p, p = (l[a % l.length]).toNat ^^^ 2 ^ (b % 8) := ⟨_, rfl⟩
  obtain ⟨A2, hA2⟩ : ∃ p, p = arcF (swap l (a % l.length) (UInt8.ofNat ((l[a % l.length]).toNat ^^^ 2 ^ (b % 8)))) (crcF l) := ⟨_, rfl⟩
  have hT : SndC Q Post (csnd tpRest) (tdSt Post l (archF l) a b p1 (p1 ++ [UInt8.ofNat z]) p3 A2 y z) .ret { t := tOf (tdR Post l (archF l) a b p1 (p1 ++ [UInt8.ofNat z]) p3 A2 y z (sumAt ++ dig (15 + l.length)) (dig (15 + l.length))), n := 86, h := wHp (tcR Post l (archF l) a b p1 (p1 ++ [UInt8.ofNat z]) p3 A2 y z), s := none } := SndC.runXE (td_def Post l (archF l) a b p1 (p1 ++ [UInt8.ofNat z]) p3 A2 y z (sumAt ++ dig (15 + l.length)) (dig (15 + l.length)))
    (td_run Post l (archF l) a b p1 (p1 ++ [UInt8.ofNat z]) p3 A2 y z (sumAt ++ dig (15 + l.length)) (dig (15 + l.length)))
    ⟨⟨rfl, say_over Post h1 h2 _ (Nat.le_of_ble_eq_true (by kernel_rfl)) (by
        have e : lentAll (List.range 12 ++ [22]) (wHp (tcR Post l (archF l) a b p1 (p1 ++ [UInt8.ofNat z]) p3 A2 y z)) (heapOf (lent12 ++ [linkR l.length])) (List.range 12 ++ [22]) 0 = (eqvs [.int .i64 5, .int .i64 (.ofNat (15 + l.length)), .iface 540 (.ptr (some (7, 0)))] [.int .i64 5, .int .i64 (.ofNat (15 + l.length)), .iface 540 (.ptr (some (7, 0)))] && true) := by kernel_rfl
        rw [e]
        simp [eqvs, eqv])⟩,
     fun h => by
       refine retV_of ((aBin_sub (by rw [hAl]; omega) (show (archF l).length < 9223372036854775808 by rw [hAl]; omega)).trans ?_)
       rw [hAl, show 23 + l.length - 8 = 15 + l.length by omega],
     ⟨fun _ => rfl, fun h hL => dig_over Post h1 h2 h hL⟩,
     str_add (by
       have : (dig (15 + l.length)).length ≤ 3 := by unfold dig; split <;> simp
       have e : sumAt.length = 7 := rfl
       omega), str_eql _, ⟨fun _ => rfl, fun h hL => alive_over Post h hL⟩, trivial⟩
  have hC : SndC Q Post tpRest (tcSt Post l (archF l) a b) .ret { t := tOf (tdR Post l (archF l) a b p1 (p1 ++ [UInt8.ofNat z]) p3 A2 y z (sumAt ++ dig (15 + l.length)) (dig (15 + l.length))), n := 86, h := wHp (tcR Post l (archF l) a b p1 (p1 ++ [UInt8.ofNat z]) p3 A2 y z), s := none } := by
    rw [tc_code]
    refine .seq (wDrawn_run (R := tcR Post l (archF l) a b p1 (p1 ++ [UInt8.ofNat z]) p3 A2 y z) rfl tc_sg (tc_run Post l (archF l) a b p1 (p1 ++ [UInt8.ofNat z]) p3 A2 y z) ?_ ?_) hT
    · refine ⟨fun h => by rw [hp1]; exact slice_to (by rw [hAl]; omega) h, fun h => ?_, fun h => ?_, fun h => ?_, fun h => ?_, ?_, fun h => ?_, fun h => by rw [hp3]; exact slice_from (by rw [hAl]; omega) h, ?_, fun _ => rfl, rfl, trivial⟩
      · have hg := arc_get (c := crcF l) hj
        rw [arcF_crc] at hg
        rw [hy0]
        exact retV_of (index9 hg)
      · exact retV_of (aBin_rem (by decide))
      · refine retV_of ((aBin_shl (k := .u8) (a := 1) (show b % 8 ≤ 8 by omega) ?_).trans ?_)
        · have : b % 8 ≤ 7 := by omega
          have := Nat.pow_le_pow_right (n := 2) (by decide) this
          show 1 * 2 ^ (b % 8) < 256
          omega
        · rw [Nat.one_mul]
      · have hp : 2 ^ (b % 8) < 256 := by
          have : b % 8 ≤ 7 := by omega
          have := Nat.pow_le_pow_right (n := 2) (by decide) this
          omega
        rw [hy0, hz0]
        exact retV_of (aBin_xor (k := .u8) hy hp hz)
      · exact str_add (by rw [hp1, htk]; simp; omega)
      · refine retV_of ((aBin_add (show 15 + a % l.length + 1 < 9223372036854775808 by omega)).trans ?_)
        rw [show 15 + a % l.length + 1 = 16 + a % l.length by omega]
      · have := fun h => str_add (a := (archF l).take (15 + a % l.length) ++ [UInt8.ofNat ((l[a % l.length]).toNat ^^^ 2 ^ (b % 8))]) (b := (archF l).drop (16 + a % l.length)) (c := false) (by rw [List.length_append, htk]; simp; omega) h
        rw [hsw] at this
        rw [hp1, hp3, hA2, hz0]
        exact this
    · intro h hL
      have := parse_bad Post (l := swap l (a % l.length) (UInt8.ofNat ((l[a % l.length]).toNat ^^^ 2 ^ (b % 8)))) (c := crcF l) (by omega) (by omega) (crcF_lt l) hne 22 h hL
      rw [hsl] at this
      rw [hA2]
      exact this
  have hP := seqs_run (r := tpRest) (R := tpR Post l (archF l) a b (fun _ => .tuple [])) (tp_def Post l (archF l) a b (fun _ => .tuple [])) (tp_run Post l (archF l) a b (fun _ => .tuple []))
    ⟨fun h => retV_of (by rw [aBin_eql, beq_false (by omega)]), fun h => retV_of (by rw [aBin_gtr, decide_eq_false (by omega)]), ⟨fun _ => rfl, fun h hL => archive_snd Post h0 (by omega) (L7_n hL).1 (L7_n hL).2⟩, ⟨fun _ => rfl, fun h hL => parse_good Post h1 h2 12 h hL⟩,
     fun h => conv_22_3 h ha, fun h => retV_of (aBin_rem (by omega)), fun h => retV_of (aBin_add (show 15 + a % l.length < 9223372036854775808 by omega)), str_neq l, fun h => retV_of (aBin_add (show 15 + l.length < 9223372036854775808 by omega)),
     fun h => by
       refine retV_of ((aBin_add (show 15 + l.length + 8 < 9223372036854775808 by omega)).trans ?_)
       rw [show 15 + l.length + 8 = 23 + l.length by omega],
     fun h => retV_of (by rw [aBin_neq, hAl]; simp), trivial⟩ hC
  rw [← tp_code] at hP
  have body : SndC Q Post (bodyOf Tryz.f7) { t := T.ofList [.str l, .int .u16 (.ofNat a), .int .u8 (.ofNat b)], n := 86, h := h12t, s := none } .ret { t := tOf (tdR Post l (archF l) a b p1 (p1 ++ [UInt8.ofNat z]) p3 A2 y z (sumAt ++ dig (15 + l.length)) (dig (15 + l.length))), n := 86, h := wHp (tcR Post l (archF l) a b p1 (p1 ++ [UInt8.ofNat z]) p3 A2 y z), s := none } := enterC hP (by kernel_rfl)
  exact ⟨_, _, body, .inl rfl, (td_res Post l (archF l) a b p1 (p1 ++ [UInt8.ofNat z]) p3 A2 y z (sumAt ++ dig (15 + l.length)) (dig (15 + l.length))), rfl⟩
end
end Go.Cx

/-
  TopBytes OF NO TEXT AND OF A LONG ONE: TRUE.
-/
namespace Go.Cx
noncomputable section
open Go Go.Proofs Go.Conc
noncomputable def tzOv : Nat → Nat → Option Ov
  | 2, 0 => some (.told 13 [] (.bool true) LA (fun h => h))
  | _, _ => none
noncomputable def tzR (Post : Value → World → Prop)  (a b : Nat) (x : Nat → AV) : Option (Ex × AS × List Prop) := EX Post tzOv (bodyOf Tryz.f7) { t := T.ofList (.str [] :: .int .u16 (.ofNat a) :: .int .u8 (.ofNat b) :: x 3 :: x 4 :: x 5 :: x 6 :: x 7 :: x 8 :: x 9 :: x 10 :: x 11 :: x 12 :: x 13 :: x 14 :: x 15 :: x 16 :: x 17 :: x 18 :: x 19 :: x 20 :: x 21 :: x 22 :: x 23 :: x 24 :: x 25 :: x 26 :: x 27 :: x 28 :: x 29 :: x 30 :: x 31 :: x 32 :: x 33 :: x 34 :: x 35 :: x 36 :: x 37 :: x 38 :: x 39 :: x 40 :: x 41 :: x 42 :: x 43 :: x 44 :: x 45 :: x 46 :: x 47 :: x 48 :: x 49 :: x 50 :: x 51 :: x 52 :: x 53 :: x 54 :: x 55 :: x 56 :: x 57 :: x 58 :: x 59 :: x 60 :: x 61 :: x 62 :: x 63 :: x 64 :: x 65 :: x 66 :: x 67 :: x 68 :: x 69 :: x 70 :: x 71 :: x 72 :: x 73 :: x 74 :: x 75 :: x 76 :: x 77 :: x 78 :: x 79 :: x 80 :: x 81 :: x 82 :: x 83 :: x 84 :: x 85 :: []), n := 86, h := h12t, s := none }
theorem tz_def (Post : Value → World → Prop)  (a b : Nat) (x : Nat → AV) : (tzR Post  a b x) = EX Post tzOv (bodyOf Tryz.f7) { t := T.ofList (.str [] :: .int .u16 (.ofNat a) :: .int .u8 (.ofNat b) :: x 3 :: x 4 :: x 5 :: x 6 :: x 7 :: x 8 :: x 9 :: x 10 :: x 11 :: x 12 :: x 13 :: x 14 :: x 15 :: x 16 :: x 17 :: x 18 :: x 19 :: x 20 :: x 21 :: x 22 :: x 23 :: x 24 :: x 25 :: x 26 :: x 27 :: x 28 :: x 29 :: x 30 :: x 31 :: x 32 :: x 33 :: x 34 :: x 35 :: x 36 :: x 37 :: x 38 :: x 39 :: x 40 :: x 41 :: x 42 :: x 43 :: x 44 :: x 45 :: x 46 :: x 47 :: x 48 :: x 49 :: x 50 :: x 51 :: x 52 :: x 53 :: x 54 :: x 55 :: x 56 :: x 57 :: x 58 :: x 59 :: x 60 :: x 61 :: x 62 :: x 63 :: x 64 :: x 65 :: x 66 :: x 67 :: x 68 :: x 69 :: x 70 :: x 71 :: x 72 :: x 73 :: x 74 :: x 75 :: x 76 :: x 77 :: x 78 :: x 79 :: x 80 :: x 81 :: x 82 :: x 83 :: x 84 :: x 85 :: []), n := 86, h := h12t, s := none } := by kernel_rfl
theorem tz_run (Post : Value → World → Prop)  (a b : Nat) (x : Nat → AV) : (tzR Post  a b x) = some (.ret, { t := tOf (tzR Post  a b x), n := 86, h := h12t, s := none },
    [(∀ h : AH, some (ARes.call 13 [], h) = some (ARes.call 13 [], h)) ∧ ∀ h : AH, LA h = true → SndF Q Post 13 [] h none (.bool true) (h) none]) := by kernel_rfl
theorem tz_res (Post : Value → World → Prop)  (a b : Nat) (x : Nat → AV) : aResults Q Tryz.f7 { t := tOf (tzR Post  a b x), n := 86, h := h12t, s := none } = some (.bool true) := by kernel_rfl
set_option maxRecDepth 100000 in
theorem tz_snd (Post : Value → World → Prop)  (a b : Nat) : BodyS Q Post Tryz.f7 (bodyOf Tryz.f7) [.str [], .int .u16 (.ofNat a), .int .u8 (.ofNat b)] h12t (.bool true) := by
  have hD := SndC.runXE (tz_def Post  a b (fun _ => .tuple [])) (tz_run Post  a b (fun _ => .tuple [])) ⟨⟨fun _ => rfl, fun h hL => alive_over Post h hL⟩, trivial⟩
  have body : SndC Q Post (bodyOf Tryz.f7) { t := T.ofList [.str [], .int .u16 (.ofNat a), .int .u8 (.ofNat b)], n := 86, h := h12t, s := none } .ret { t := tOf (tzR Post  a b (fun _ => .tuple [])), n := 86, h := h12t, s := none } := enterC hD (by kernel_rfl)
  exact ⟨_, _, body, .inl rfl, tz_res Post  a b (fun _ => .tuple []), rfl⟩
noncomputable def tlOv (_l : List UInt8) : Nat → Nat → Option Ov
  | 1, 2 => some (.pure (.bool false))
  | 1, 6 => some (.pure (.bool true))
  | 2, 0 => some (.told 13 [] (.bool true) LA (fun h => h))
  | _, _ => none
noncomputable def tlR (Post : Value → World → Prop) (l : List UInt8) (a b : Nat) (x : Nat → AV) : Option (Ex × AS × List Prop) := EX Post (tlOv l) (bodyOf Tryz.f7) { t := T.ofList (.str l :: .int .u16 (.ofNat a) :: .int .u8 (.ofNat b) :: x 3 :: x 4 :: x 5 :: x 6 :: x 7 :: x 8 :: x 9 :: x 10 :: x 11 :: x 12 :: x 13 :: x 14 :: x 15 :: x 16 :: x 17 :: x 18 :: x 19 :: x 20 :: x 21 :: x 22 :: x 23 :: x 24 :: x 25 :: x 26 :: x 27 :: x 28 :: x 29 :: x 30 :: x 31 :: x 32 :: x 33 :: x 34 :: x 35 :: x 36 :: x 37 :: x 38 :: x 39 :: x 40 :: x 41 :: x 42 :: x 43 :: x 44 :: x 45 :: x 46 :: x 47 :: x 48 :: x 49 :: x 50 :: x 51 :: x 52 :: x 53 :: x 54 :: x 55 :: x 56 :: x 57 :: x 58 :: x 59 :: x 60 :: x 61 :: x 62 :: x 63 :: x 64 :: x 65 :: x 66 :: x 67 :: x 68 :: x 69 :: x 70 :: x 71 :: x 72 :: x 73 :: x 74 :: x 75 :: x 76 :: x 77 :: x 78 :: x 79 :: x 80 :: x 81 :: x 82 :: x 83 :: x 84 :: x 85 :: []), n := 86, h := h12t, s := none }
theorem tl_def (Post : Value → World → Prop) (l : List UInt8) (a b : Nat) (x : Nat → AV) : (tlR Post l a b x) = EX Post (tlOv l) (bodyOf Tryz.f7) { t := T.ofList (.str l :: .int .u16 (.ofNat a) :: .int .u8 (.ofNat b) :: x 3 :: x 4 :: x 5 :: x 6 :: x 7 :: x 8 :: x 9 :: x 10 :: x 11 :: x 12 :: x 13 :: x 14 :: x 15 :: x 16 :: x 17 :: x 18 :: x 19 :: x 20 :: x 21 :: x 22 :: x 23 :: x 24 :: x 25 :: x 26 :: x 27 :: x 28 :: x 29 :: x 30 :: x 31 :: x 32 :: x 33 :: x 34 :: x 35 :: x 36 :: x 37 :: x 38 :: x 39 :: x 40 :: x 41 :: x 42 :: x 43 :: x 44 :: x 45 :: x 46 :: x 47 :: x 48 :: x 49 :: x 50 :: x 51 :: x 52 :: x 53 :: x 54 :: x 55 :: x 56 :: x 57 :: x 58 :: x 59 :: x 60 :: x 61 :: x 62 :: x 63 :: x 64 :: x 65 :: x 66 :: x 67 :: x 68 :: x 69 :: x 70 :: x 71 :: x 72 :: x 73 :: x 74 :: x 75 :: x 76 :: x 77 :: x 78 :: x 79 :: x 80 :: x 81 :: x 82 :: x 83 :: x 84 :: x 85 :: []), n := 86, h := h12t, s := none } := by kernel_rfl
theorem tl_run (Post : Value → World → Prop) (l : List UInt8) (a b : Nat) (x : Nat → AV) : (tlR Post l a b x) = some (.ret, { t := tOf (tlR Post l a b x), n := 86, h := h12t, s := none },
    [∀ h, retV h (aBin Q .eql 3 true (.int .i64 (.ofNat l.length)) (.int .i64 (.ofNat 0))) = some (.val (.bool false), h),
     ∀ h, retV h (aBin Q .gtr 3 true (.int .i64 (.ofNat l.length)) (.int .i64 (.ofNat 300))) = some (.val (.bool true), h),
     (∀ h : AH, some (ARes.call 13 [], h) = some (ARes.call 13 [], h)) ∧ ∀ h : AH, LA h = true → SndF Q Post 13 [] h none (.bool true) (h) none]) := by kernel_rfl
theorem tl_res (Post : Value → World → Prop) (l : List UInt8) (a b : Nat) (x : Nat → AV) : aResults Q Tryz.f7 { t := tOf (tlR Post l a b x), n := 86, h := h12t, s := none } = some (.bool true) := by kernel_rfl
set_option maxRecDepth 100000 in
theorem tl_snd (Post : Value → World → Prop) (l : List UInt8) (a b : Nat) (hl : 300 < l.length) : BodyS Q Post Tryz.f7 (bodyOf Tryz.f7) [.str l, .int .u16 (.ofNat a), .int .u8 (.ofNat b)] h12t (.bool true) := by
  have hD := SndC.runXE (tl_def Post l a b (fun _ => .tuple [])) (tl_run Post l a b (fun _ => .tuple [])) ⟨fun h => retV_of (by rw [aBin_eql, beq_false (by omega)]), fun h => retV_of (by rw [aBin_gtr, decide_eq_true (by omega)]), ⟨fun _ => rfl, fun h hL => alive_over Post h hL⟩, trivial⟩
  have body : SndC Q Post (bodyOf Tryz.f7) { t := T.ofList [.str l, .int .u16 (.ofNat a), .int .u8 (.ofNat b)], n := 86, h := h12t, s := none } .ret { t := tOf (tlR Post l a b (fun _ => .tuple [])), n := 86, h := h12t, s := none } := enterC hD (by kernel_rfl)
  exact ⟨_, _, body, .inl rfl, tl_res Post l a b (fun _ => .tuple []), rfl⟩

/-- TopBytes, of whatever there is, over the lent blocks. -/
theorem topbytes_snd (Post : Value → World → Prop) (l : List UInt8) {a b : Nat} (ha : a < 65536) (hb : b < 256) : BodyS Q Post Tryz.f7 (bodyOf Tryz.f7) [.str l, .int .u16 (.ofNat a), .int .u8 (.ofNat b)] h12t (.bool true) := by
  by_cases h0 : l.length = 0
  · have : l = [] := List.length_eq_zero_iff.1 h0
    subst this
    exact tz_snd Post a b
  by_cases h1 : 300 < l.length
  · exact tl_snd Post l a b h1
  exact topbytes_long Post (by omega) (by omega) ha hb
end
end Go.Cx

