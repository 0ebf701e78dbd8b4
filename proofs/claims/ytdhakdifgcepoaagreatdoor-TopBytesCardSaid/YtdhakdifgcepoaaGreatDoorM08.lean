/-
  THE SUM crc.Of OF ANY TEXT. ..
-/
import Derived.Test.YtdhakdifgcepoaaGreatDoorM04
import Derived.Test.YtdhakdifgcepoaaGreatDoorM07
/-
  THE SUM crc.Of OF ANY TEXT.
-/
namespace Go.Cx
noncomputable section
open Go Go.Proofs Go.Conc

/-! ### the sum -/
def crcBit (c : Nat) : Nat := if c % 2 = 1 then (c / 2) ^^^ 3988292384 else c / 2
def crcBits : Nat → Nat → Nat
  | 0, c => c
  | n + 1, c => crcBits n (crcBit c)
def crcE (i : Nat) : Nat := crcBits 8 i
def crcStep (c b : Nat) : Nat := crcE ((c % 256) ^^^ b) ^^^ (c / 256)
def crcOn (c : Nat) : List UInt8 → Nat
  | [] => c
  | b :: l => crcOn (crcStep c b.toNat) l
def crcF (l : List UInt8) : Nat := 4294967295 - crcOn 4294967295 l

theorem crcBit_lt {c : Nat} (h : c < 2 ^ 32) : crcBit c < 2 ^ 32 := by
  unfold crcBit
  split
  · exact Nat.xor_lt_two_pow (by omega) (by omega)
  · omega
theorem crcBits_lt : ∀ {n c : Nat}, c < 2 ^ 32 → crcBits n c < 2 ^ 32
  | 0, _, h => h
  | n + 1, _, h => crcBits_lt (n := n) (crcBit_lt h)
theorem crcStep_lt {c b : Nat} (h : c < 2 ^ 32) (hb : b < 256) : crcStep c b < 2 ^ 32 := by
  unfold crcStep crcE
  have h1 : (c % 256) ^^^ b < 2 ^ 8 := Nat.xor_lt_two_pow (by omega) (by omega)
  exact Nat.xor_lt_two_pow (crcBits_lt (by omega)) (by omega)
theorem crcOn_lt : ∀ {l : List UInt8} {c : Nat}, c < 2 ^ 32 → crcOn c l < 2 ^ 32
  | [], _, h => h
  | b :: l, _, h => crcOn_lt (l := l) (crcStep_lt h b.toNat_lt)

/-- What a symbolic run leaves in the slots. -/
def tOf : Option (Ex × AS × List Prop) → T AV
  | some (_, st, _) => st.t
  | none => .nil
theorem orc_none (f : FuncId) (args : List AV) (h : AH) (s : Option (Nat × List AV)) : (orc []).call f args h s = none := rfl
theorem orc_nil (Post : Value → World → Prop) : OrcS Q Post (orc []) := orc_ok TabsOk.nil Post
theorem SndC.run {Post : Value → World → Prop} {l : List (FuncId × List Tab)} {ov : Nat → Nat → Option Ov} {k : Nat} {c : Code} {st st' : AS} {e : Ex} {ps : List Prop} (hl : TabsOk l) (h : hden Q Post (orc l) ov k c st = some (e, st', ps)) (hp : All ps) : SndC Q Post c st e st' :=
  (hden_sound q_mixed (orc_ok hl Post) k c st e st' ps h hp).1
theorem SndF.of {Post : Value → World → Prop} {f : FuncId} {fn : Func} {c : Code} {args : List AV} {h : AH} {s : Option (Nat × List AV)} {e : Ex} {st : AS} {v : AV} (hcal : aCallable Q f = true) (hf : Q.funcs[f]? = some fn) (hb : fn.body = some c)
    (hd : SndC Q Post c { t := T.ofList args, n := args.length + (fn.ntmps - args.length), h, s } e st) (he : e = .ret ∨ e = .normal) (hr : aResults Q fn st = some v) : SndF Q Post f args h s v st.h st.s :=
  SndF.body ⟨orc [], orc_nil Post, orc_none f args h s⟩ hcal hf hb hd (fun id hx => by rcases he with rfl | rfl <;> cases hx) hr

/-! ### one byte -/
def TabAt (h : AH) (p : Nat) : Prop := ∃ e cs op ro, h.t.get p = some (.cells e 256 cs op ro) ∧ ∀ i, i < 256 → cs.get i = some (.int .u32 (.ofNat (crcE i)))

def stepOv (h : AH) (p c b : Nat) : Nat → Nat → Option Ov
  | 1, 2 => some (.val (.int .u8 (.ofNat (c % 256))) h)
  | 1, 4 => some (.val (.int .u8 (.ofNat ((c % 256) ^^^ b))) h)
  | 1, 6 => some (.val (.ptr (some (p, (c % 256) ^^^ b))) h)
  | 1, 7 => some (.val (.int .u32 (.ofNat (crcE ((c % 256) ^^^ b)))) h)
  | 1, 9 => some (.val (.int .u32 (.ofNat (c / 2 ^ 8))) h)
  | 1, 10 => some (.val (.int .u32 (.ofNat (crcStep c b))) h)
  | _, _ => none
noncomputable abbrev stepSt (h : AH) (s : Option (Nat × List AV)) (p c b : Nat) : AS := { t := T.ofList [.ptr (some (p, 0)), .int .u32 (.ofNat c), .int .u8 (.ofNat b)], n := 18, h, s }
theorem step_run (Post : Value → World → Prop) (h : AH) (s : Option (Nat × List AV)) (p c b : Nat) :
    hden Q Post (orc []) (stepOv h p c b) 12 (Tryz.f306.body.getD .skip) (stepSt h s p c b) = some (.ret, { t := tOf (hden Q Post (orc []) (stepOv h p c b) 12 (Tryz.f306.body.getD .skip) (stepSt h s p c b)), n := 18, h, s },
      [aConvert Q h 189 5 (.int .u32 (.ofNat c)) = some (.val (.int .u8 (.ofNat (c % 256))), h),
       retV h (aBin Q .xor 5 false (.int .u8 (.ofNat (c % 256))) (.int .u8 (.ofNat b))) = some (.val (.int .u8 (.ofNat ((c % 256) ^^^ b))), h),
       retV h (aIndexAddr Q 416 (.ptr (some (p, 0))) (.int .u8 (.ofNat ((c % 256) ^^^ b)))) = some (.val (.ptr (some (p, (c % 256) ^^^ b))), h),
       retV h (aLoad Q h 189 p ((c % 256) ^^^ b)) = some (.val (.int .u32 (.ofNat (crcE ((c % 256) ^^^ b)))), h),
       retV h (aBin Q .shr 189 true (.int .u32 (.ofNat c)) (.int .u64 (.ofNat 8))) = some (.val (.int .u32 (.ofNat (c / 2 ^ 8))), h),
       retV h (aBin Q .xor 189 false (.int .u32 (.ofNat (crcE ((c % 256) ^^^ b)))) (.int .u32 (.ofNat (c / 2 ^ 8)))) = some (.val (.int .u32 (.ofNat (crcStep c b))), h)]) := by kernel_rfl
theorem step_res (Post : Value → World → Prop) (h : AH) (s : Option (Nat × List AV)) (p c b : Nat) : aResults Q Tryz.f306 { t := tOf (hden Q Post (orc []) (stepOv h p c b) 12 (Tryz.f306.body.getD .skip) (stepSt h s p c b)), n := 18, h, s } = some (.int .u32 (.ofNat (crcStep c b))) := by kernel_rfl
theorem retV_of {h : AH} {x : Option AV} {v : AV} (hx : x = some v) : retV h x = some (.val v, h) := by rw [hx]; rfl
theorem conv_u32_u8 (h : AH) (c : Nat) : aConvert Q h 189 5 (.int .u32 (.ofNat c)) = some (.val (.int .u8 (.ofNat (c % 256))), h) := by
  have : IntKind.u8.wrap (.ofNat c) = .ofNat (c % 256) := by
    show (IntKind.u8.wrap (c : Int)) = ((c % 256 : Nat) : Int)
    simp [IntKind.wrap, IntKind.bits, IntKind.signed]
  have e : aConvert Q h 189 5 (.int .u32 (.ofNat c)) = some (.val (.int .u8 (IntKind.u8.wrap (.ofNat c))), h) := by kernel_rfl
  rw [e, this]
theorem idx416 (p i : Nat) (hi : i < 256) : aIndexAddr Q 416 (.ptr (some (p, 0))) (.int .u8 (.ofNat i)) = some (.ptr (some (p, i))) := by
  have e : aIndexAddr Q 416 (.ptr (some (p, 0))) (.int .u8 (.ofNat i)) = if 0 ≤ (Int.ofNat i) ∧ (Int.ofNat i) < 256 then some (.ptr (some (p, 0 + (Int.ofNat i).toNat * 1))) else none := by kernel_rfl
  rw [e, if_pos ⟨Int.natCast_nonneg i, by show (i : Int) < 256; omega⟩]
  simp
theorem load189 {h : AH} {p i : Nat} {v : AV} (e : TypeId) (cs : T AV) (op ro : Bool) (n : Nat) (hp : h.t.get p = some (.cells e n cs op ro)) (hi : i < n) (hv : cs.get i = some v) : aLoad Q h 189 p i = some v := by
  have e1 : aIsAgg Q 189 = false := by kernel_rfl
  have e2 : aKnown Q 189 = true := by kernel_rfl
  simp only [aLoad, hp, e1, e2, Bool.false_eq_true, if_false, Bool.true_and, decide_eq_true hi, if_true, hv]
theorem step_snd (Post : Value → World → Prop) {h : AH} {s : Option (Nat × List AV)} {p c b : Nat} (hp : TabAt h p) (hc : c < 2 ^ 32) (hb : b < 256) :
    SndF Q Post 306 [.ptr (some (p, 0)), .int .u32 (.ofNat c), .int .u8 (.ofNat b)] h s (.int .u32 (.ofNat (crcStep c b))) h s := by
  obtain ⟨e, cs, op, ro, hp, ht⟩ := hp
  have hi : (c % 256) ^^^ b < 256 := Nat.xor_lt_two_pow (n := 8) (by omega) (by omega)
  refine SndF.of (by kernel_rfl) Tryz.func306 rfl (SndC.run TabsOk.nil (step_run Post h s p c b) ⟨conv_u32_u8 h c, ?_, ?_, ?_, ?_, ?_, trivial⟩) (.inl rfl) (step_res Post h s p c b)
  · exact retV_of (aBin_xor (by simp [IntKind.bits]; omega) (by simpa [IntKind.bits] using hb) (by simpa [kLim] using hi))
  · exact retV_of (idx416 p _ hi)
  · exact retV_of (load189 e cs op ro 256 hp hi (ht _ hi))
  · exact retV_of (aBin_shr (by simp [IntKind.bits]))
  · exact retV_of (aBin_xor (show crcE ((c % 256) ^^^ b) < 2 ^ 32 from crcBits_lt (by omega)) (by simp [IntKind.bits]; omega) (show crcStep c b < 2 ^ 32 from crcStep_lt hc hb))

/-! ### a text -/
noncomputable def lent7 : List ABlk := [.cells 372 0 (T.ofList []) false true, .cells 32 0 (T.ofList []) false true, .cells 32 0 (T.ofList []) false true, .cells 32 0 (T.ofList []) false true, .cells 32 0 (T.ofList []) false true, .cells 32 0 (T.ofList []) false true, .cells 539 0 (T.ofList []) false true]
def cfst : Code → Code
  | .seq a _ => a
  | c => c
def csnd : Code → Code
  | .seq _ b => b
  | c => c
def cinn : Code → Code
  | .block _ b => b
  | .loop b => b
  | .scope b => b
  | c => c
abbrev bodyOf (fn : Func) : Code := fn.body.getD .skip
noncomputable def onBody : Code := cinn (cinn (csnd (cfst (csnd (csnd (csnd (bodyOf Tryz.f232)))))))
def onOv (h : AH) (c j : Nat) (b : UInt8) : Nat → Nat → Option Ov
  | 4, 0 => some (.val (.bool true) h)
  | 6, 3 => some (.val (.int .u8 (.ofNat b.toNat)) h)
  | 6, 4 => some (.call 306 [.ptr (some (7, 0)), .int .u32 (.ofNat c), .int .u8 (.ofNat b.toNat)] (.int .u32 (.ofNat (crcStep c b.toNat))) h)
  | 7, 0 => some (.val (.int .i64 (.ofNat (j + 1))) h)
  | _, _ => none
def onOvE (h : AH) : Nat → Nat → Option Ov
  | 4, 0 => some (.val (.bool false) h)
  | _, _ => none
theorem on_round (Post : Value → World → Prop) (h : AH) (l : List UInt8) (c j : Nat) (b : UInt8) (x2 x3 x4 x6 x7 x8 x9 x10 x13 x14 x15 x16 x17 x18 x19 x20 x21 x22 : AV) :
    hden Q Post (orc []) (onOv h c j b) 12 onBody { t := T.ofList [.int .u32 (.ofNat c), .str l, x2, x3, x4, .ptr (some (7, 0)), x6, x7, x8, x9, x10, .int .i64 (.ofNat l.length), .int .i64 (.ofNat j), x13, x14, x15, x16, x17, x18, x19, x20, x21, x22], n := 23, h, s := none } = some (.normal, { t := T.ofList [.int .u32 (.ofNat (crcStep c b.toNat)), .str l, x2, x3, x4, .ptr (some (7, 0)), .int .i64 (.ofNat j), x7, x8, x9, x10, .int .i64 (.ofNat l.length), .int .i64 (.ofNat (j + 1)), .bool true, .int .i64 (.ofNat j), .int .u32 (.ofNat c), .str l, .int .i64 (.ofNat j), .int .u8 (.ofNat b.toNat), .int .u32 (.ofNat (crcStep c b.toNat)), .int .i64 (.ofNat (j + 1)), x21, x22], n := 23, h, s := none },
      [retV h (aBin Q .lss 3 false (.int .i64 (.ofNat j)) (.int .i64 (.ofNat l.length))) = some (.val (.bool true), h),
       retV h (aIndex Q 9 (.str l) (.int .i64 (.ofNat j))) = some (.val (.int .u8 (.ofNat b.toNat)), h),
       some (ARes.call 306 [.ptr (some (7, 0)), .int .u32 (.ofNat c), .int .u8 (.ofNat b.toNat)], h) = some (ARes.call 306 [.ptr (some (7, 0)), .int .u32 (.ofNat c), .int .u8 (.ofNat b.toNat)], h) ∧ SndF Q Post 306 [.ptr (some (7, 0)), .int .u32 (.ofNat c), .int .u8 (.ofNat b.toNat)] h none (.int .u32 (.ofNat (crcStep c b.toNat))) h none,
       retV h (aBin Q .add 3 true (.int .i64 (.ofNat j)) (.int .i64 (.ofNat 1))) = some (.val (.int .i64 (.ofNat (j + 1))), h)]) := by kernel_rfl
theorem on_last (Post : Value → World → Prop) (h : AH) (l : List UInt8) (c j : Nat) (x2 x3 x4 x6 x7 x8 x9 x10 x13 x14 x15 x16 x17 x18 x19 x20 x21 x22 : AV) :
    hden Q Post (orc []) (onOvE h) 12 onBody { t := T.ofList [.int .u32 (.ofNat c), .str l, x2, x3, x4, .ptr (some (7, 0)), x6, x7, x8, x9, x10, .int .i64 (.ofNat l.length), .int .i64 (.ofNat j), x13, x14, x15, x16, x17, x18, x19, x20, x21, x22], n := 23, h, s := none } = some (.exit 0, { t := T.ofList [.int .u32 (.ofNat c), .str l, x2, x3, x4, .ptr (some (7, 0)), x6, x7, x8, x9, x10, .int .i64 (.ofNat l.length), .int .i64 (.ofNat j), .bool false, x14, x15, x16, x17, x18, x19, x20, x21, x22], n := 23, h, s := none },
      [retV h (aBin Q .lss 3 false (.int .i64 (.ofNat j)) (.int .i64 (.ofNat l.length))) = some (.val (.bool false), h)]) := by kernel_rfl
theorem index9 {l : List UInt8} {j : Nat} {b : UInt8} (hb : l[j]? = some b) : aIndex Q 9 (.str l) (.int .i64 (.ofNat j)) = some (.int .u8 (.ofNat b.toNat)) := by
  have e : aIndex Q 9 (.str l) (.int .i64 (.ofNat j)) = if 0 ≤ (Int.ofNat j) then match l[(Int.ofNat j).toNat]? with
    | some b => some (.int .u8 b.toNat)
    | none => none
    else none := by kernel_rfl
  rw [e, if_pos (show 0 ≤ Int.ofNat j from Int.natCast_nonneg j)]
  have : (Int.ofNat j).toNat = j := rfl
  rw [this, hb]
  rfl
theorem on_loop (Post : Value → World → Prop) {h : AH} (hp : TabAt h 7) {l : List UInt8} (hl : l.length < 2 ^ 62) : ∀ (rest : List UInt8) (c j : Nat) (x2 x3 x4 x6 x7 x8 x9 x10 x13 x14 x15 x16 x17 x18 x19 x20 x21 x22 : AV), c < 2 ^ 32 → l.drop j = rest → j ≤ l.length →
    ∃ t' : T AV, SndL Q Post onBody { t := T.ofList [.int .u32 (.ofNat c), .str l, x2, x3, x4, .ptr (some (7, 0)), x6, x7, x8, x9, x10, .int .i64 (.ofNat l.length), .int .i64 (.ofNat j), x13, x14, x15, x16, x17, x18, x19, x20, x21, x22], n := 23, h, s := none } (.exit 0) { t := t', n := 23, h, s := none } ∧ t'.get 0 = some (.int .u32 (.ofNat (crcOn c rest)))
  | [], c, j, x2, x3, x4, x6, x7, x8, x9, x10, x13, x14, x15, x16, x17, x18, x19, x20, x21, x22, hc, hr, hj => by
    have hj : l.length ≤ j := by simpa using hr
    exact ⟨_, .done (SndC.run TabsOk.nil (on_last Post h l c j x2 x3 x4 x6 x7 x8 x9 x10 x13 x14 x15 x16 x17 x18 x19 x20 x21 x22) ⟨retV_of (by rw [aBin_lss, decide_eq_false (by omega)]), trivial⟩) (by simp), rfl⟩
  | b :: rest, c, j, x2, x3, x4, x6, x7, x8, x9, x10, x13, x14, x15, x16, x17, x18, x19, x20, x21, x22, hc, hr, hj => by
    have hb : l[j]? = some b := by
      have := congrArg (fun m : List UInt8 => m[0]?) hr
      simpa using this
    have hjl : j < l.length := (List.getElem?_eq_some_iff.1 hb).1
    have hr' : l.drop (j + 1) = rest := by
      have := congrArg List.tail hr
      simpa using this
    obtain ⟨st, h1, h2⟩ := on_loop Post hp hl rest (crcStep c b.toNat) (j + 1) x2 x3 x4 (.int .i64 (.ofNat j)) x7 x8 x9 x10 (.bool true) (.int .i64 (.ofNat j)) (.int .u32 (.ofNat c)) (.str l) (.int .i64 (.ofNat j)) (.int .u8 (.ofNat b.toNat)) (.int .u32 (.ofNat (crcStep c b.toNat))) (.int .i64 (.ofNat (j + 1))) x21 x22 (crcStep_lt hc b.toNat_lt) hr' (by omega)
    refine ⟨st, .step (SndC.run TabsOk.nil (on_round Post h l c j b x2 x3 x4 x6 x7 x8 x9 x10 x13 x14 x15 x16 x17 x18 x19 x20 x21 x22) ?_) h1, h2⟩
    exact ⟨retV_of (by rw [aBin_lss, decide_eq_true hjl]), retV_of (index9 hb), ⟨rfl, step_snd Post hp hc b.toNat_lt⟩, retV_of (aBin_add (show j + 1 < 9223372036854775808 by omega)), trivial⟩

/-! ### crc.On, crc.Of -/
def slots (n : Nat) (t : T AV) : List AV := (List.range n).map fun d => (t.get d).getD (.tuple [])
theorem agree_slots (st : AS) : Agree st { st with t := T.ofList (slots st.n st.t) } := by
  refine ⟨rfl, rfl, rfl, fun d hd => ?_, fun d hd => ?_⟩
  · simp [T.get_ofList, slots, hd]
  · simp [T.get_ofList, slots, hd]
noncomputable abbrev onTab : List (FuncId × List Tab) := [(305, [{ c := conT, g := 7, deep := 0 }])]
theorem onTab_ok : TabsOk onTab := .cons (.cons (tabOk conT_ok 0) (.nil 305)) .nil
noncomputable abbrev onC : Code := bodyOf Tryz.f232
noncomputable abbrev onR3 : Code := cfst (cfst (csnd (csnd (csnd onC))))
noncomputable abbrev onBlk : Code := csnd (cfst (csnd (csnd (csnd onC))))
noncomputable abbrev onEnd : Code := csnd (csnd (csnd (csnd onC)))
noncomputable abbrev h7 : AH := heapOf lent7
noncomputable abbrev E (Post : Value → World → Prop) (tb : List (FuncId × List Tab)) (ov : Nat → Nat → Option Ov) (c : Code) (st : AS) : Option (Ex × AS × List Prop) := hden Q Post (orc tb) ov 200 c st
noncomputable def on0 (_ : Value → World → Prop) (c : Nat) (l : List UInt8) : AS := { t := T.ofList [.int .u32 (.ofNat c), .str l], n := 23, h := h7, s := none }
def noOv : Nat → Nat → Option Ov := fun _ _ => none
def stOf : Option (Ex × AS × List Prop) → AS
  | some (_, st, _) => st
  | none => default
noncomputable def on1 (Post : Value → World → Prop) (c : Nat) (l : List UInt8) : AS := stOf (E Post [] noOv (cfst onC) (on0 Post c l))
noncomputable def on2 (Post : Value → World → Prop) (c : Nat) (l : List UInt8) : AS := stOf (E Post onTab noOv (cfst (csnd onC)) (on1 Post c l))
def on3ov (c : Nat) (h : AH) : Nat → Nat → Option Ov
  | 2, 1 => some (.val (.int .u32 (.ofNat (2 ^ IntKind.u32.bits - 1 - c))) h)
  | _, _ => none
noncomputable def on3 (Post : Value → World → Prop) (c : Nat) (l : List UInt8) : AS := stOf (E Post [] (on3ov c (on2 Post c l).h) (cfst (csnd (csnd onC))) (on2 Post c l))
noncomputable def on4 (Post : Value → World → Prop) (c : Nat) (l : List UInt8) : AS := stOf (E Post [] noOv onR3 (on3 Post c l))
section
variable (Post : Value → World → Prop) (c : Nat) (l : List UInt8)
theorem on1_run : E Post [] noOv (cfst onC) (on0 Post c l) = some (.normal, on1 Post c l, []) := by kernel_rfl
theorem on2_run : E Post onTab noOv (cfst (csnd onC)) (on1 Post c l) = some (.normal, on2 Post c l, []) := by kernel_rfl
theorem on3_run : E Post [] (on3ov c (on2 Post c l).h) (cfst (csnd (csnd onC))) (on2 Post c l) = some (.normal, on3 Post c l, [retV (on2 Post c l).h (aUn .xor (.int .u32 (.ofNat c))) = some (.val (.int .u32 (.ofNat (2 ^ IntKind.u32.bits - 1 - c))), (on2 Post c l).h)]) := by kernel_rfl
theorem on4_run : E Post [] noOv onR3 (on3 Post c l) = some (.normal, on4 Post c l, []) := by kernel_rfl
theorem on4_n : (on4 Post c l).n = 23 := by kernel_rfl
theorem on4_s : (on4 Post c l).s = none := by kernel_rfl
theorem on4_slots : slots 23 (on4 Post c l).t = [.int .u32 (.ofNat (2 ^ IntKind.u32.bits - 1 - c)), .str l, (((on4 Post c l).t.get 2).getD (.tuple [])), (((on4 Post c l).t.get 3).getD (.tuple [])), (((on4 Post c l).t.get 4).getD (.tuple [])), .ptr (some (7, 0)), (((on4 Post c l).t.get 6).getD (.tuple [])), (((on4 Post c l).t.get 7).getD (.tuple [])), (((on4 Post c l).t.get 8).getD (.tuple [])), (((on4 Post c l).t.get 9).getD (.tuple [])), (((on4 Post c l).t.get 10).getD (.tuple [])), .int .i64 (.ofNat l.length), .int .i64 (.ofNat 0), (((on4 Post c l).t.get 13).getD (.tuple [])), (((on4 Post c l).t.get 14).getD (.tuple [])), (((on4 Post c l).t.get 15).getD (.tuple [])), (((on4 Post c l).t.get 16).getD (.tuple [])), (((on4 Post c l).t.get 17).getD (.tuple [])), (((on4 Post c l).t.get 18).getD (.tuple [])), (((on4 Post c l).t.get 19).getD (.tuple [])), (((on4 Post c l).t.get 20).getD (.tuple [])), (((on4 Post c l).t.get 21).getD (.tuple [])), (((on4 Post c l).t.get 22).getD (.tuple []))] := by kernel_rfl
noncomputable def on4cells : T AV := match (on4 Post c l).h.t.get 7 with
  | some (.cells _ _ c _ _) => c
  | _ => .nil
theorem on4_tab : (on4 Post c l).h.t.get 7 = some (.cells 416 256 (on4cells Post c l) false false) := by kernel_rfl
theorem on4_row : (List.range 256).all (fun i => match (on4cells Post c l).get i with
  | some (.int k (.ofNat n)) => Nat.beq (kIdx k) 6 && Nat.beq n (crcE i)
  | _ => false) = true := by kernel_rfl
theorem onE_run (y1 y2 y3 y4 y5 y6 y7 y8 y9 y10 y11 y12 y13 y14 y15 y16 y17 y18 y19 y20 y21 y22 : AV) (h : AH) : E Post [] (fun i j => match i, j with | 8, 1 => some (.val (.int .u32 (.ofNat (2 ^ IntKind.u32.bits - 1 - c))) h) | _, _ => none) onEnd { t := T.ofList [.int .u32 (.ofNat c), y1, y2, y3, y4, y5, y6, y7, y8, y9, y10, y11, y12, y13, y14, y15, y16, y17, y18, y19, y20, y21, y22], n := 23, h, s := none } = some (.ret, stOf (E Post [] (fun i j => match i, j with | 8, 1 => some (.val (.int .u32 (.ofNat (2 ^ IntKind.u32.bits - 1 - c))) h) | _, _ => none) onEnd { t := T.ofList [.int .u32 (.ofNat c), y1, y2, y3, y4, y5, y6, y7, y8, y9, y10, y11, y12, y13, y14, y15, y16, y17, y18, y19, y20, y21, y22], n := 23, h, s := none }),
   [retV h (aUn .xor (.int .u32 (.ofNat c))) = some (.val (.int .u32 (.ofNat (2 ^ IntKind.u32.bits - 1 - c))), h)]) := by kernel_rfl
theorem onE_res (y1 y2 y3 y4 y5 y6 y7 y8 y9 y10 y11 y12 y13 y14 y15 y16 y17 y18 y19 y20 y21 y22 : AV) (h : AH) : (fun st : AS => (aResults Q Tryz.f232 st, st.h, st.s)) (stOf (E Post [] (fun i j => match i, j with | 8, 1 => some (.val (.int .u32 (.ofNat (2 ^ IntKind.u32.bits - 1 - c))) h) | _, _ => none) onEnd { t := T.ofList [.int .u32 (.ofNat c), y1, y2, y3, y4, y5, y6, y7, y8, y9, y10, y11, y12, y13, y14, y15, y16, y17, y18, y19, y20, y21, y22], n := 23, h, s := none })) = (some (.int .u32 (.ofNat (2 ^ IntKind.u32.bits - 1 - c))), h, none) := by kernel_rfl
end

/-! ### the sum of any text -/
theorem tabAt_on (Post : Value → World → Prop) (c : Nat) (l : List UInt8) : TabAt (on4 Post c l).h 7 := by
  refine ⟨_, _, _, _, on4_tab Post c l, fun i hi => ?_⟩
  have := List.all_eq_true.1 (on4_row Post c l) i (List.mem_range.2 hi)
  split at this
  · rename_i k n e
    simp only [Bool.and_eq_true] at this
    rw [e, Nat.eq_of_beq_eq_true this.2]
    have hk := Nat.eq_of_beq_eq_true this.1
    cases k <;> first | rfl | (cases hk; done)
  · cases this
theorem slots_get {n : Nat} {t : T AV} {i : Nat} {v : AV} (h : t.get i = some v) (hi : i < n) : (slots n t)[i]? = some v := by
  simp [slots, hi, h]
theorem on_snd (Post : Value → World → Prop) {c : Nat} {l : List UInt8} (hc : c < 2 ^ 32) (hl : l.length < 2 ^ 62) :
    SndF Q Post 232 [.int .u32 (.ofNat c), .str l] h7 none (.int .u32 (.ofNat (4294967295 - crcOn (4294967295 - c) l))) (on4 Post c l).h none := by
  have hq : 4294967295 - c < 2 ^ 32 := by omega
  obtain ⟨t', h1, h2⟩ := on_loop Post (tabAt_on Post c l) hl l (4294967295 - c) 0 _ _ _ _ _ _ _ _ _ _ _ _ _ _ _ _ _ _ hq rfl (Nat.zero_le _)
  have hst : on4 Post c l = { t := (on4 Post c l).t, n := 23, h := (on4 Post c l).h, s := none } := by
    have e1 := on4_n Post c l
    have e2 := on4_s Post c l
    cases hx : on4 Post c l with
    | mk a b c d => rw [hx] at e1 e2; simp only at e1 e2; rw [e1, e2]
  have hblk : SndC Q Post onBlk (on4 Post c l) .normal { t := t', n := 23, h := (on4 Post c l).h, s := none } := by
    refine SndC.pre (.blockExit (.loop h1)) ?_
    have := agree_slots (on4 Post c l)
    rw [on4_n, on4_slots] at this
    rw [on4_s] at this
    exact this
  have e0 : slots 23 t' = [.int .u32 (.ofNat (crcOn (4294967295 - c) l)), (t'.get 1).getD (.tuple []), (t'.get 2).getD (.tuple []), (t'.get 3).getD (.tuple []), (t'.get 4).getD (.tuple []), (t'.get 5).getD (.tuple []), (t'.get 6).getD (.tuple []), (t'.get 7).getD (.tuple []), (t'.get 8).getD (.tuple []), (t'.get 9).getD (.tuple []), (t'.get 10).getD (.tuple []), (t'.get 11).getD (.tuple []), (t'.get 12).getD (.tuple []), (t'.get 13).getD (.tuple []), (t'.get 14).getD (.tuple []), (t'.get 15).getD (.tuple []), (t'.get 16).getD (.tuple []), (t'.get 17).getD (.tuple []), (t'.get 18).getD (.tuple []), (t'.get 19).getD (.tuple []), (t'.get 20).getD (.tuple []), (t'.get 21).getD (.tuple []), (t'.get 22).getD (.tuple [])] := by
    show [(t'.get 0).getD (.tuple []), (t'.get 1).getD (.tuple []), (t'.get 2).getD (.tuple []), (t'.get 3).getD (.tuple []), (t'.get 4).getD (.tuple []), (t'.get 5).getD (.tuple []), (t'.get 6).getD (.tuple []), (t'.get 7).getD (.tuple []), (t'.get 8).getD (.tuple []), (t'.get 9).getD (.tuple []), (t'.get 10).getD (.tuple []), (t'.get 11).getD (.tuple []), (t'.get 12).getD (.tuple []), (t'.get 13).getD (.tuple []), (t'.get 14).getD (.tuple []), (t'.get 15).getD (.tuple []), (t'.get 16).getD (.tuple []), (t'.get 17).getD (.tuple []), (t'.get 18).getD (.tuple []), (t'.get 19).getD (.tuple []), (t'.get 20).getD (.tuple []), (t'.get 21).getD (.tuple []), (t'.get 22).getD (.tuple [])] = _
    rw [h2]
    rfl
  have hlt := crcOn_lt (l := l) hq
  have hend := SndC.run TabsOk.nil (onE_run Post (crcOn (4294967295 - c) l) ((t'.get 1).getD (.tuple [])) ((t'.get 2).getD (.tuple [])) ((t'.get 3).getD (.tuple [])) ((t'.get 4).getD (.tuple [])) ((t'.get 5).getD (.tuple [])) ((t'.get 6).getD (.tuple [])) ((t'.get 7).getD (.tuple [])) ((t'.get 8).getD (.tuple [])) ((t'.get 9).getD (.tuple [])) ((t'.get 10).getD (.tuple [])) ((t'.get 11).getD (.tuple [])) ((t'.get 12).getD (.tuple [])) ((t'.get 13).getD (.tuple [])) ((t'.get 14).getD (.tuple [])) ((t'.get 15).getD (.tuple [])) ((t'.get 16).getD (.tuple [])) ((t'.get 17).getD (.tuple [])) ((t'.get 18).getD (.tuple [])) ((t'.get 19).getD (.tuple [])) ((t'.get 20).getD (.tuple [])) ((t'.get 21).getD (.tuple [])) ((t'.get 22).getD (.tuple [])) (on4 Post c l).h) ⟨retV_of (aUn_xor rfl hlt), trivial⟩
  have hres := onE_res Post (crcOn (4294967295 - c) l) ((t'.get 1).getD (.tuple [])) ((t'.get 2).getD (.tuple [])) ((t'.get 3).getD (.tuple [])) ((t'.get 4).getD (.tuple [])) ((t'.get 5).getD (.tuple [])) ((t'.get 6).getD (.tuple [])) ((t'.get 7).getD (.tuple [])) ((t'.get 8).getD (.tuple [])) ((t'.get 9).getD (.tuple [])) ((t'.get 10).getD (.tuple [])) ((t'.get 11).getD (.tuple [])) ((t'.get 12).getD (.tuple [])) ((t'.get 13).getD (.tuple [])) ((t'.get 14).getD (.tuple [])) ((t'.get 15).getD (.tuple [])) ((t'.get 16).getD (.tuple [])) ((t'.get 17).getD (.tuple [])) ((t'.get 18).getD (.tuple [])) ((t'.get 19).getD (.tuple [])) ((t'.get 20).getD (.tuple [])) ((t'.get 21).getD (.tuple [])) ((t'.get 22).getD (.tuple [])) (on4 Post c l).h
  simp only [Prod.mk.injEq] at hres
  obtain ⟨r1, r2, r3⟩ := hres
  have hE : SndC Q Post onEnd { t := t', n := 23, h := (on4 Post c l).h, s := none } _ _ := SndC.pre hend (by
    have := agree_slots { t := t', n := 23, h := (on4 Post c l).h, s := none }
    simp only [e0] at this
    exact this)
  have body : SndC Q Post onC (on0 Post c l) .ret _ :=
    .seq (SndC.run TabsOk.nil (on1_run Post c l) trivial) (.seq (SndC.run onTab_ok (on2_run Post c l) trivial) (.seq (SndC.run TabsOk.nil (on3_run Post c l) ⟨retV_of (aUn_xor rfl hc), trivial⟩)
      (.seq (.seq (SndC.run TabsOk.nil (on4_run Post c l) trivial) hblk) hE)))
  have := SndF.of (by kernel_rfl) Tryz.func232 rfl body (.inl rfl) r1
  rw [r2, r3] at this
  exact this

/-! ### crc.Of as an oracle -/
def ofOv (_ : Value → World → Prop) (l : List UInt8) (h : AH) : Nat → Nat → Option Ov
  | 1, 1 => some (.call 232 [.int .u32 (.ofNat 0), .str l] (.int .u32 (.ofNat (crcF l))) h)
  | _, _ => none
noncomputable def of0 (l : List UInt8) : AS := { t := T.ofList [.str l], n := 5, h := h7, s := none }
theorem of_run (Post : Value → World → Prop) (l : List UInt8) (h : AH) : E Post [] (ofOv Post l h) (bodyOf Tryz.f144) (of0 l) = some (.ret, stOf (E Post [] (ofOv Post l h) (bodyOf Tryz.f144) (of0 l)),
    [some (ARes.call 232 [.int .u32 (.ofNat 0), .str l], h7) = some (ARes.call 232 [.int .u32 (.ofNat 0), .str l], h7) ∧ SndF Q Post 232 [.int .u32 (.ofNat 0), .str l] h7 none (.int .u32 (.ofNat (crcF l))) h none]) := by kernel_rfl
theorem of_res (Post : Value → World → Prop) (l : List UInt8) (h : AH) : (fun st : AS => (aResults Q Tryz.f144 st, st.h, st.s)) (stOf (E Post [] (ofOv Post l h) (bodyOf Tryz.f144) (of0 l))) = (some (.int .u32 (.ofNat (crcF l))), h, none) := by kernel_rfl
theorem of_snd (Post : Value → World → Prop) {l : List UInt8} (hl : l.length < 2 ^ 62) : SndF Q Post 144 [.str l] h7 none (.int .u32 (.ofNat (crcF l))) (on4 Post 0 l).h none := by
  have hres := of_res Post l (on4 Post 0 l).h
  simp only [Prod.mk.injEq] at hres
  obtain ⟨r1, r2, r3⟩ := hres
  have := SndF.of (by kernel_rfl) Tryz.func144 rfl (SndC.run TabsOk.nil (of_run Post l (on4 Post 0 l).h) ⟨⟨rfl, on_snd Post (c := 0) (by decide) hl⟩, trivial⟩) (.inl rfl) r1
  rw [r2, r3] at this
  exact this

noncomputable def seqN {α : Type} (n : Nat) (k : Nat → α) : α := Nat.rec (motive := fun _ => α) (k 0) (fun m _ => k (m + 1)) n
theorem seqN_eq {α : Type} (n : Nat) (k : Nat → α) : seqN n k = k n := by cases n <;> rfl
/-- As 'crcOn', for the kernel. -/
noncomputable def crcOnK (l : List UInt8) : Nat → Nat := List.rec (motive := fun _ => Nat → Nat) (fun c => c) (fun b _ R c => seqN (crcStep c b.toNat) R) l
theorem crcOnK_eq : ∀ (l : List UInt8) (c : Nat), crcOnK l c = crcOn c l
  | [], c => rfl
  | b :: l, c => by
    show seqN (crcStep c b.toNat) (crcOnK l) = crcOn (crcStep c b.toNat) l
    rw [seqN_eq, crcOnK_eq l]
noncomputable def crcK (l : List UInt8) : Nat := 4294967295 - crcOnK l 4294967295
theorem crcK_eq (l : List UInt8) : crcK l = crcF l := by unfold crcK crcF; rw [crcOnK_eq]

/-- The oracle. -/
noncomputable def crcUse (args : List AV) (h : AH) : Option (AV × AH) :=
  match args with
  | [.str l] => match Nat.blt l.length 4611686018427387904 && (List.range 7).all (fun b => Nat.blt b h.n) && lentAll (List.range 7) h h7 (List.range 7) 0 with
    | true => some (.int .u32 (.ofNat (crcK l)), h)
    | false => none
  | _ => none
theorem crcUse_sound (Post : Value → World → Prop) {args : List AV} {h h' : AH} {v : AV} (hu : crcUse args h = some (v, h')) : SndF Q Post 144 args h none v h' none := by
  unfold crcUse at hu
  split at hu
  · rename_i l
    split at hu
    · rename_i hc
      simp only [Bool.and_eq_true, List.all_eq_true, Nat.blt_eq] at hc
      obtain ⟨⟨h1, h2⟩, h3⟩ := hc
      cases hu
      rw [crcK_eq]
      have := SndF.frame (P := Q) (h := h) (m := List.range 7) (ids := []) (blks := []) (args' := [.str l]) (v' := .int .u32 (.ofNat (crcF l))) (of_snd Post (l := l) (by simpa using h1)) h2 List.nodup_range rfl (fun g hg => by
        have : Q.globals.size = 7 := by kernel_rfl
        rw [this] at hg
        simp [hg]) (heapOf_out _) h3 (by rfl) List.nodup_nil (by simp) rfl (by rfl)
      exact this
    · cases hu
  · cases hu

/-- All oracles. -/
noncomputable def orcX (l : List (FuncId × List Tab)) : Orc where
  call := fun f args h s => match Nat.beq f 144 with
    | true => match s with
      | none => crcUse args h
      | some _ => none
    | false => tabCall (tabOf l) f args h s
  go := piecesGo
  ext := asExt Q
theorem orcX_ok {l : List (FuncId × List Tab)} (h : TabsOk l) (Post : Value → World → Prop) : OrcS Q Post (orcX l) where
  ext := asExt_sound
  call := fun s hx => by
    simp only [orcX] at hx
    split at hx
    · rename_i hf
      have hf := Nat.eq_of_beq_eq_true hf
      subst hf
      split at hx
      · exact crcUse_sound Post hx
      · cases hx
    · exact tabCall_sound (tabOf_sound h) hx
  go := fun hx hA hd => piecesGo_sound hx hA hd
end
end Go.Cx

/-
  ROWS OF BYTES THAT GROW, in this program.
-/
namespace Go.Cx
noncomputable section
open Go Go.Proofs Go.Conc

theorem und67 : Q.underlying 67 = some (.slice 5) := by kernel_rfl
theorem und5 : Q.underlying 5 = some (.int .u8) := by kernel_rfl
theorem size5 : aSize Q 5 = some 1 := by kernel_rfl
theorem bytes5 : aBytes Q 5 = some 1 := by kernel_rfl
theorem zero5 : aZero Q 5 = some (.int .u8 0) := by kernel_rfl
theorem info5 : (Q.info? 5).isSome = true := by kernel_rfl
theorem map_append_byteV (L M : List Nat) : L.map byteV ++ M.map byteV = (L ++ M).map byteV := (List.map_append ..).symm

/-- A row is made. -/
theorem new_row (h : AH) (L : List Nat) : aNew Q h 5 (L.map byteV) true = some (h.n, h.push (.cells 5 L.length (T.ofList (L.map byteV)) true false)) := by
  simp only [aNew, byteV_scalar, info5, Bool.and_self, if_true, List.length_map]
theorem row_push (h : AH) (L : List Nat) : Row (h.push (.cells 5 L.length (T.ofList (L.map byteV)) true false)) (.slice (some (h.n, 0)) L.length L.length true) L :=
  .inr ⟨h.n, _, rfl, push_get h _, by have := gets_all (L.map byteV); rwa [List.length_map] at this, by simp [AH.push]⟩

/-- What is put behind. -/
def Piece (h : AH) (x : AV) (xt : TypeId) (M : List Nat) : Prop :=
  ∃ xd, Q.underlying xt = some xd ∧ aAppended.aInt xd = false ∧ aLenOf x = some M.length ∧ aFirst h 1 M.length x = some (M.map byteV)
theorem append_row {h : AH} {sl x : AV} {xt : TypeId} {L M : List Nat} (hr : Row h sl L) (hx : Piece h x xt M) (hM : M ≠ []) (hlen : L.length + M.length < 2 ^ 40) :
    ∃ sl' h', aAppend Q h [67, xt] [sl, x] = some (.val sl', h') ∧ Row h' sl' (L ++ M) ∧ Keeps h h' (rowBase sl) ∧ rowBase sl' = some h.n := by
  obtain ⟨xd, hxd, hi, hxl, hxf⟩ := hx
  have hpos : 0 < M.length := List.length_pos_iff.2 hM
  have happ : aAppended h 1 1 (.int .u8 0) xd x = some (M.length, M.map byteV) := by
    unfold aAppended
    rw [hi]
    simp only [Bool.false_eq_true, if_false, hxl, hxf, Option.map_some]
  have hroom : ¬ (roomMax < (2 * (L.length + M.length) + 1000) * (1 + 1)) := by unfold roomMax; omega
  rcases hr with ⟨rfl, rfl⟩ | ⟨b, c, rfl, hb, hc, hbn⟩
  · refine ⟨.slice (some (h.n, 0)) M.length M.length true, _, ?_, row_push h M, ⟨by simp [AH.push], fun k hk _ => ?_⟩, rfl⟩
    · simp only [aAppend, und67, size5, bytes5, zero5, hxd, happ]
      have h1 : ¬ ((M.map byteV).length ≠ M.length * 1 ∨ (AV.int IntKind.u8 0).cells.length ≠ 1 ∨ (AV.int IntKind.u8 0).cells.all AV.scalar = false) := by
        simp [AV.cells, AV.scalar]
      have h2 : ¬ (0 + M.length ≤ 0) := by omega
      simp only [List.length_nil] at hroom
      rw [if_neg h1, if_neg h2, if_neg hroom]
      simp only [aFirst, List.length_nil, Nat.zero_mul, ne_eq, not_true_eq_false, if_false, List.nil_append, new_row, Nat.zero_add]
    · simp only [AH.push, T.get_set]
      rw [if_neg (by omega)]
  · have hnew := new_row { h with t := h.t.set b .dead } (L ++ M)
    refine ⟨.slice (some (h.n, 0)) (L ++ M).length (L ++ M).length true, _, ?_, row_push { h with t := h.t.set b .dead } (L ++ M), ⟨by simp [AH.push], fun k hk hne => ?_⟩, rfl⟩
    · simp only [aAppend, und67, size5, bytes5, zero5, hxd, happ]
      have h1 : ¬ ((M.map byteV).length ≠ M.length * 1 ∨ (AV.int IntKind.u8 0).cells.length ≠ 1 ∨ (AV.int IntKind.u8 0).cells.all AV.scalar = false) := by
        simp [AV.cells, AV.scalar]
      have h2 : ¬ (L.length + M.length ≤ L.length) := by omega
      rw [if_neg h1, if_neg h2, if_neg hroom]
      have hf : aFirst h 1 L.length (.slice (some (b, 0)) L.length L.length true) = some (L.map byteV) := by
        simp only [aFirst, aCellsAt, hb, Nat.zero_add, Nat.mul_one, Nat.le_refl, if_true, hc]
      simp only [hf, List.length_map, Nat.mul_one, ne_eq, not_true_eq_false, if_false, if_true, hb, beq_self_eq_true, Bool.true_and, Nat.zero_add, Nat.le_refl, decide_true, map_append_byteV, hnew, List.length_append]
    · simp only [AH.push, T.get_set]
      rw [if_neg (by omega), if_neg (fun e => hne (by simp [rowBase, e]))]
/-- A row of one byte, newly made. -/
theorem piece_one {h : AH} {b : Nat} (x : Nat) {op ro op' : Bool} {cs : T AV} {cap : Nat} (hb : h.t.get b = some (.cells 5 1 cs op ro)) (hc : cs.get 0 = some (byteV x)) : Piece h (.slice (some (b, 0)) 1 cap op') 67 [x] :=
  ⟨_, und67, rfl, rfl, by simp [aFirst, aCellsAt, hb, T.gets, hc]⟩
theorem piece_str {h : AH} (l : List UInt8) : Piece h (.str l) 9 (l.map (·.toNat)) := by
  refine ⟨.string, by kernel_rfl, rfl, by simp [aLenOf], ?_⟩
  simp only [aFirst, List.length_map, List.take_length, ofBytes, List.map_map]
  rfl
/-- A byte is put behind: the row of one byte is made first. -/
theorem buildOne (h : AH) (x : Nat) : aop Q (fun o => match o with | .tmp _ => some (byteV x) | _ => none) { dst := none, op := .buildSlice 67 1 #[(0, .tmp 0)], type := 67, pos := "", after := #[], guard := none } h = some (.val (.slice (some (h.n, 0)) 1 1 false), h.push (.cells 5 1 (T.ofList [byteV x]) false false)) := by kernel_rfl
def gs (r : Option (Ex × AS × List Prop)) (i : Nat) : AV := ((tOf r).get i).getD (.tuple [])
theorem runE {Post : Value → World → Prop} {tb : List (FuncId × List Tab)} {ov : Nat → Nat → Option Ov} {c : Code} {st st' : AS} {e : Ex} {ps : List Prop} {R : Option (Ex × AS × List Prop)} (hl : TabsOk tb) (hR : R = E Post tb ov c st) (h : R = some (e, st', ps)) (hp : All ps) : SndC Q Post c st e st' :=
  SndC.run hl (hR ▸ h) hp
theorem canonC {Post : Value → World → Prop} {c : Code} {st : AS} {e : Ex} {t : T AV} {n : Nat} {h : AH} {l : List AV} (hd : SndC Q Post c st e { t := t, n := n, h := h, s := none }) (hs : slots n t = l) : SndC Q Post c st e { t := T.ofList l, n := n, h := h, s := none } := by
  refine hd.post ?_
  have := agree_slots { t := t, n := n, h := h, s := none }
  simp only [hs] at this
  exact this
theorem enterC {Post : Value → World → Prop} {c : Code} {st : AS} {e : Ex} {l args : List AV} {n : Nat} {h : AH} (hd : SndC Q Post c { t := T.ofList l, n := n, h := h, s := none } e st) (hs : slots n (T.ofList args) = l) : SndC Q Post c { t := T.ofList args, n := n, h := h, s := none } e st := by
  refine hd.pre ?_
  have := agree_slots { t := T.ofList args, n := n, h := h, s := none }
  simp only [hs] at this
  exact this
end
end Go.Cx

/-
  THE DOCUMENT's WRITER OF BITS.
-/
namespace Go.Cx
noncomputable section
open Go Go.Proofs Go.Conc
noncomputable abbrev putBody : Code := (cinn (cinn (csnd (cfst (csnd (csnd (bodyOf Tryz.f271)))))))
def putRoundOv (h : AH) (h2 : AH) (h3 : AH) (sl : AV) (sl2 : AV) (_bw : Nat) (v : Nat) (_n : Nat) (i : Nat) : Nat → Nat → Option Ov
  | 4, 2 => some (.val (.bool true) h)
  | 6, 4 => some (.val sl h)
  | 6, 7 => some (.val (.int .u64 (.ofNat i)) h)
  | 6, 8 => some (.val (.int .i64 (.ofNat (v / 2 ^ i))) h)
  | 6, 9 => some (.val (.int .i64 (.ofNat ((v / 2 ^ i) % 2))) h)
  | 6, 10 => some (.val (byteV ((v / 2 ^ i) % 2)) h)
  | 6, 12 => some (.val sl2 h2)
  | 6, 15 => some (.skip h3)
  | 5, 1 => some (.val (.int .i64 (.ofNat (i + 1))) h3)
  | _, _ => none
noncomputable def putRoundR (Post : Value → World → Prop) (h : AH) (h2 : AH) (h3 : AH) (sl : AV) (sl2 : AV) (bw : Nat) (v : Nat) (n : Nat) (i : Nat) (x : Nat → AV) : Option (Ex × AS × List Prop) := E Post [] (putRoundOv h h2 h3 sl sl2 bw v n i) putBody { t := T.ofList (.ptr (some (bw, 0)) :: .int .i64 (.ofNat v) :: .int .i64 (.ofNat n) :: x 3 :: x 4 :: x 5 :: x 6 :: .int .i64 (.ofNat i) :: x 8 :: x 9 :: x 10 :: x 11 :: x 12 :: x 13 :: x 14 :: x 15 :: x 16 :: x 17 :: x 18 :: x 19 :: x 20 :: x 21 :: x 22 :: x 23 :: x 24 :: x 25 :: x 26 :: x 27 :: x 28 :: x 29 :: x 30 :: x 31 :: x 32 :: x 33 :: x 34 :: x 35 :: x 36 :: x 37 :: x 38 :: x 39 :: x 40 :: x 41 :: x 42 :: x 43 :: x 44 :: []), n := 45, h := h, s := none }
theorem putRound_run (Post : Value → World → Prop) (h : AH) (h2 : AH) (h3 : AH) (sl : AV) (sl2 : AV) (bw : Nat) (v : Nat) (n : Nat) (i : Nat) (x : Nat → AV) : putRoundR Post h h2 h3 sl sl2 bw v n i x = some (.normal, { t := tOf (putRoundR Post h h2 h3 sl sl2 bw v n i x), n := 45, h := h3, s := none },
    [retV h (aBin Q .lss 3 false (.int .i64 (.ofNat i)) (.int .i64 (.ofNat n))) = some (.val (.bool true), h),
     retV h (aLoad Q h 67 bw 0) = some (.val sl, h),
     aConvert Q h 3 345 (.int .i64 (.ofNat i)) = some (.val (.int .u64 (.ofNat i)), h),
     retV h (aBin Q .shr 3 false (.int .i64 (.ofNat v)) (.int .u64 (.ofNat i))) = some (.val (.int .i64 (.ofNat (v / 2 ^ i))), h),
     retV h (aBin Q .rem 3 true (.int .i64 (.ofNat (v / 2 ^ i))) (.int .i64 (.ofNat 2))) = some (.val (.int .i64 (.ofNat ((v / 2 ^ i) % 2))), h),
     aConvert Q h 3 5 (.int .i64 (.ofNat ((v / 2 ^ i) % 2))) = some (.val (byteV ((v / 2 ^ i) % 2)), h),
     aAppend Q (h.push (.cells 5 1 (T.ofList [byteV ((v / 2 ^ i) % 2)]) false false)) [67, 67] [sl, .slice (some (h.n, 0)) 1 1 false] = some (.val sl2, h2),
     (aStore Q h2 67 bw 0 sl2).map (fun h => (ARes.skip, h)) = some (.skip, h3),
     retV h3 (aBin Q .add 3 true (.int .i64 (.ofNat i)) (.int .i64 (.ofNat 1))) = some (.val (.int .i64 (.ofNat (i + 1))), h3)]) := by kernel_rfl
theorem putRound_slots (Post : Value → World → Prop) (h : AH) (h2 : AH) (h3 : AH) (sl : AV) (sl2 : AV) (bw : Nat) (v : Nat) (n : Nat) (i : Nat) (x : Nat → AV) : slots 45 (tOf (putRoundR Post h h2 h3 sl sl2 bw v n i x)) = (.ptr (some (bw, 0)) :: .int .i64 (.ofNat v) :: .int .i64 (.ofNat n) :: gs (putRoundR Post h h2 h3 sl sl2 bw v n i x) 3 :: gs (putRoundR Post h h2 h3 sl sl2 bw v n i x) 4 :: gs (putRoundR Post h h2 h3 sl sl2 bw v n i x) 5 :: gs (putRoundR Post h h2 h3 sl sl2 bw v n i x) 6 :: .int .i64 (.ofNat (i + 1)) :: gs (putRoundR Post h h2 h3 sl sl2 bw v n i x) 8 :: gs (putRoundR Post h h2 h3 sl sl2 bw v n i x) 9 :: gs (putRoundR Post h h2 h3 sl sl2 bw v n i x) 10 :: gs (putRoundR Post h h2 h3 sl sl2 bw v n i x) 11 :: gs (putRoundR Post h h2 h3 sl sl2 bw v n i x) 12 :: gs (putRoundR Post h h2 h3 sl sl2 bw v n i x) 13 :: gs (putRoundR Post h h2 h3 sl sl2 bw v n i x) 14 :: gs (putRoundR Post h h2 h3 sl sl2 bw v n i x) 15 :: gs (putRoundR Post h h2 h3 sl sl2 bw v n i x) 16 :: gs (putRoundR Post h h2 h3 sl sl2 bw v n i x) 17 :: gs (putRoundR Post h h2 h3 sl sl2 bw v n i x) 18 :: gs (putRoundR Post h h2 h3 sl sl2 bw v n i x) 19 :: gs (putRoundR Post h h2 h3 sl sl2 bw v n i x) 20 :: gs (putRoundR Post h h2 h3 sl sl2 bw v n i x) 21 :: gs (putRoundR Post h h2 h3 sl sl2 bw v n i x) 22 :: gs (putRoundR Post h h2 h3 sl sl2 bw v n i x) 23 :: gs (putRoundR Post h h2 h3 sl sl2 bw v n i x) 24 :: gs (putRoundR Post h h2 h3 sl sl2 bw v n i x) 25 :: gs (putRoundR Post h h2 h3 sl sl2 bw v n i x) 26 :: gs (putRoundR Post h h2 h3 sl sl2 bw v n i x) 27 :: gs (putRoundR Post h h2 h3 sl sl2 bw v n i x) 28 :: gs (putRoundR Post h h2 h3 sl sl2 bw v n i x) 29 :: gs (putRoundR Post h h2 h3 sl sl2 bw v n i x) 30 :: gs (putRoundR Post h h2 h3 sl sl2 bw v n i x) 31 :: gs (putRoundR Post h h2 h3 sl sl2 bw v n i x) 32 :: gs (putRoundR Post h h2 h3 sl sl2 bw v n i x) 33 :: gs (putRoundR Post h h2 h3 sl sl2 bw v n i x) 34 :: gs (putRoundR Post h h2 h3 sl sl2 bw v n i x) 35 :: gs (putRoundR Post h h2 h3 sl sl2 bw v n i x) 36 :: gs (putRoundR Post h h2 h3 sl sl2 bw v n i x) 37 :: gs (putRoundR Post h h2 h3 sl sl2 bw v n i x) 38 :: gs (putRoundR Post h h2 h3 sl sl2 bw v n i x) 39 :: gs (putRoundR Post h h2 h3 sl sl2 bw v n i x) 40 :: gs (putRoundR Post h h2 h3 sl sl2 bw v n i x) 41 :: gs (putRoundR Post h h2 h3 sl sl2 bw v n i x) 42 :: gs (putRoundR Post h h2 h3 sl sl2 bw v n i x) 43 :: gs (putRoundR Post h h2 h3 sl sl2 bw v n i x) 44 :: []) := by kernel_rfl
theorem putRound_def (Post : Value → World → Prop) (h : AH) (h2 : AH) (h3 : AH) (sl : AV) (sl2 : AV) (bw : Nat) (v : Nat) (n : Nat) (i : Nat) (x : Nat → AV) : putRoundR Post h h2 h3 sl sl2 bw v n i x = E Post [] (putRoundOv h h2 h3 sl sl2 bw v n i) putBody { t := T.ofList (.ptr (some (bw, 0)) :: .int .i64 (.ofNat v) :: .int .i64 (.ofNat n) :: x 3 :: x 4 :: x 5 :: x 6 :: .int .i64 (.ofNat i) :: x 8 :: x 9 :: x 10 :: x 11 :: x 12 :: x 13 :: x 14 :: x 15 :: x 16 :: x 17 :: x 18 :: x 19 :: x 20 :: x 21 :: x 22 :: x 23 :: x 24 :: x 25 :: x 26 :: x 27 :: x 28 :: x 29 :: x 30 :: x 31 :: x 32 :: x 33 :: x 34 :: x 35 :: x 36 :: x 37 :: x 38 :: x 39 :: x 40 :: x 41 :: x 42 :: x 43 :: x 44 :: []), n := 45, h := h, s := none } := by kernel_rfl
set_option maxRecDepth 100000 in
theorem putRound_C (Post : Value → World → Prop) (h : AH) (h2 : AH) (h3 : AH) (sl : AV) (sl2 : AV) (bw : Nat) (v : Nat) (n : Nat) (i : Nat) (x : Nat → AV) (hp : All [retV h (aBin Q .lss 3 false (.int .i64 (.ofNat i)) (.int .i64 (.ofNat n))) = some (.val (.bool true), h),
     retV h (aLoad Q h 67 bw 0) = some (.val sl, h),
     aConvert Q h 3 345 (.int .i64 (.ofNat i)) = some (.val (.int .u64 (.ofNat i)), h),
     retV h (aBin Q .shr 3 false (.int .i64 (.ofNat v)) (.int .u64 (.ofNat i))) = some (.val (.int .i64 (.ofNat (v / 2 ^ i))), h),
     retV h (aBin Q .rem 3 true (.int .i64 (.ofNat (v / 2 ^ i))) (.int .i64 (.ofNat 2))) = some (.val (.int .i64 (.ofNat ((v / 2 ^ i) % 2))), h),
     aConvert Q h 3 5 (.int .i64 (.ofNat ((v / 2 ^ i) % 2))) = some (.val (byteV ((v / 2 ^ i) % 2)), h),
     aAppend Q (h.push (.cells 5 1 (T.ofList [byteV ((v / 2 ^ i) % 2)]) false false)) [67, 67] [sl, .slice (some (h.n, 0)) 1 1 false] = some (.val sl2, h2),
     (aStore Q h2 67 bw 0 sl2).map (fun h => (ARes.skip, h)) = some (.skip, h3),
     retV h3 (aBin Q .add 3 true (.int .i64 (.ofNat i)) (.int .i64 (.ofNat 1))) = some (.val (.int .i64 (.ofNat (i + 1))), h3)]) : SndC Q Post putBody { t := T.ofList (.ptr (some (bw, 0)) :: .int .i64 (.ofNat v) :: .int .i64 (.ofNat n) :: x 3 :: x 4 :: x 5 :: x 6 :: .int .i64 (.ofNat i) :: x 8 :: x 9 :: x 10 :: x 11 :: x 12 :: x 13 :: x 14 :: x 15 :: x 16 :: x 17 :: x 18 :: x 19 :: x 20 :: x 21 :: x 22 :: x 23 :: x 24 :: x 25 :: x 26 :: x 27 :: x 28 :: x 29 :: x 30 :: x 31 :: x 32 :: x 33 :: x 34 :: x 35 :: x 36 :: x 37 :: x 38 :: x 39 :: x 40 :: x 41 :: x 42 :: x 43 :: x 44 :: []), n := 45, h := h, s := none } (.normal) { t := T.ofList (.ptr (some (bw, 0)) :: .int .i64 (.ofNat v) :: .int .i64 (.ofNat n) :: gs (putRoundR Post h h2 h3 sl sl2 bw v n i x) 3 :: gs (putRoundR Post h h2 h3 sl sl2 bw v n i x) 4 :: gs (putRoundR Post h h2 h3 sl sl2 bw v n i x) 5 :: gs (putRoundR Post h h2 h3 sl sl2 bw v n i x) 6 :: .int .i64 (.ofNat (i + 1)) :: gs (putRoundR Post h h2 h3 sl sl2 bw v n i x) 8 :: gs (putRoundR Post h h2 h3 sl sl2 bw v n i x) 9 :: gs (putRoundR Post h h2 h3 sl sl2 bw v n i x) 10 :: gs (putRoundR Post h h2 h3 sl sl2 bw v n i x) 11 :: gs (putRoundR Post h h2 h3 sl sl2 bw v n i x) 12 :: gs (putRoundR Post h h2 h3 sl sl2 bw v n i x) 13 :: gs (putRoundR Post h h2 h3 sl sl2 bw v n i x) 14 :: gs (putRoundR Post h h2 h3 sl sl2 bw v n i x) 15 :: gs (putRoundR Post h h2 h3 sl sl2 bw v n i x) 16 :: gs (putRoundR Post h h2 h3 sl sl2 bw v n i x) 17 :: gs (putRoundR Post h h2 h3 sl sl2 bw v n i x) 18 :: gs (putRoundR Post h h2 h3 sl sl2 bw v n i x) 19 :: gs (putRoundR Post h h2 h3 sl sl2 bw v n i x) 20 :: gs (putRoundR Post h h2 h3 sl sl2 bw v n i x) 21 :: gs (putRoundR Post h h2 h3 sl sl2 bw v n i x) 22 :: gs (putRoundR Post h h2 h3 sl sl2 bw v n i x) 23 :: gs (putRoundR Post h h2 h3 sl sl2 bw v n i x) 24 :: gs (putRoundR Post h h2 h3 sl sl2 bw v n i x) 25 :: gs (putRoundR Post h h2 h3 sl sl2 bw v n i x) 26 :: gs (putRoundR Post h h2 h3 sl sl2 bw v n i x) 27 :: gs (putRoundR Post h h2 h3 sl sl2 bw v n i x) 28 :: gs (putRoundR Post h h2 h3 sl sl2 bw v n i x) 29 :: gs (putRoundR Post h h2 h3 sl sl2 bw v n i x) 30 :: gs (putRoundR Post h h2 h3 sl sl2 bw v n i x) 31 :: gs (putRoundR Post h h2 h3 sl sl2 bw v n i x) 32 :: gs (putRoundR Post h h2 h3 sl sl2 bw v n i x) 33 :: gs (putRoundR Post h h2 h3 sl sl2 bw v n i x) 34 :: gs (putRoundR Post h h2 h3 sl sl2 bw v n i x) 35 :: gs (putRoundR Post h h2 h3 sl sl2 bw v n i x) 36 :: gs (putRoundR Post h h2 h3 sl sl2 bw v n i x) 37 :: gs (putRoundR Post h h2 h3 sl sl2 bw v n i x) 38 :: gs (putRoundR Post h h2 h3 sl sl2 bw v n i x) 39 :: gs (putRoundR Post h h2 h3 sl sl2 bw v n i x) 40 :: gs (putRoundR Post h h2 h3 sl sl2 bw v n i x) 41 :: gs (putRoundR Post h h2 h3 sl sl2 bw v n i x) 42 :: gs (putRoundR Post h h2 h3 sl sl2 bw v n i x) 43 :: gs (putRoundR Post h h2 h3 sl sl2 bw v n i x) 44 :: []), n := 45, h := h3, s := none } :=
  canonC (runE TabsOk.nil (putRound_def Post h h2 h3 sl sl2 bw v n i x) (putRound_run Post h h2 h3 sl sl2 bw v n i x) hp) (putRound_slots Post h h2 h3 sl sl2 bw v n i x)
def putLastOv (h : AH) (_bw : Nat) (_v : Nat) (_n : Nat) (_i : Nat) : Nat → Nat → Option Ov
  | 4, 2 => some (.val (.bool false) h)
  | _, _ => none
noncomputable def putLastR (Post : Value → World → Prop) (h : AH) (bw : Nat) (v : Nat) (n : Nat) (i : Nat) (x : Nat → AV) : Option (Ex × AS × List Prop) := E Post [] (putLastOv h bw v n i) putBody { t := T.ofList (.ptr (some (bw, 0)) :: .int .i64 (.ofNat v) :: .int .i64 (.ofNat n) :: x 3 :: x 4 :: x 5 :: x 6 :: .int .i64 (.ofNat i) :: x 8 :: x 9 :: x 10 :: x 11 :: x 12 :: x 13 :: x 14 :: x 15 :: x 16 :: x 17 :: x 18 :: x 19 :: x 20 :: x 21 :: x 22 :: x 23 :: x 24 :: x 25 :: x 26 :: x 27 :: x 28 :: x 29 :: x 30 :: x 31 :: x 32 :: x 33 :: x 34 :: x 35 :: x 36 :: x 37 :: x 38 :: x 39 :: x 40 :: x 41 :: x 42 :: x 43 :: x 44 :: []), n := 45, h := h, s := none }
theorem putLast_run (Post : Value → World → Prop) (h : AH) (bw : Nat) (v : Nat) (n : Nat) (i : Nat) (x : Nat → AV) : putLastR Post h bw v n i x = some (.exit 0, { t := tOf (putLastR Post h bw v n i x), n := 45, h := h, s := none },
    [retV h (aBin Q .lss 3 false (.int .i64 (.ofNat i)) (.int .i64 (.ofNat n))) = some (.val (.bool false), h)]) := by kernel_rfl
theorem putLast_slots (Post : Value → World → Prop) (h : AH) (bw : Nat) (v : Nat) (n : Nat) (i : Nat) (x : Nat → AV) : slots 45 (tOf (putLastR Post h bw v n i x)) = (.ptr (some (bw, 0)) :: .int .i64 (.ofNat v) :: .int .i64 (.ofNat n) :: gs (putLastR Post h bw v n i x) 3 :: gs (putLastR Post h bw v n i x) 4 :: gs (putLastR Post h bw v n i x) 5 :: gs (putLastR Post h bw v n i x) 6 :: .int .i64 (.ofNat i) :: gs (putLastR Post h bw v n i x) 8 :: gs (putLastR Post h bw v n i x) 9 :: gs (putLastR Post h bw v n i x) 10 :: gs (putLastR Post h bw v n i x) 11 :: gs (putLastR Post h bw v n i x) 12 :: gs (putLastR Post h bw v n i x) 13 :: gs (putLastR Post h bw v n i x) 14 :: gs (putLastR Post h bw v n i x) 15 :: gs (putLastR Post h bw v n i x) 16 :: gs (putLastR Post h bw v n i x) 17 :: gs (putLastR Post h bw v n i x) 18 :: gs (putLastR Post h bw v n i x) 19 :: gs (putLastR Post h bw v n i x) 20 :: gs (putLastR Post h bw v n i x) 21 :: gs (putLastR Post h bw v n i x) 22 :: gs (putLastR Post h bw v n i x) 23 :: gs (putLastR Post h bw v n i x) 24 :: gs (putLastR Post h bw v n i x) 25 :: gs (putLastR Post h bw v n i x) 26 :: gs (putLastR Post h bw v n i x) 27 :: gs (putLastR Post h bw v n i x) 28 :: gs (putLastR Post h bw v n i x) 29 :: gs (putLastR Post h bw v n i x) 30 :: gs (putLastR Post h bw v n i x) 31 :: gs (putLastR Post h bw v n i x) 32 :: gs (putLastR Post h bw v n i x) 33 :: gs (putLastR Post h bw v n i x) 34 :: gs (putLastR Post h bw v n i x) 35 :: gs (putLastR Post h bw v n i x) 36 :: gs (putLastR Post h bw v n i x) 37 :: gs (putLastR Post h bw v n i x) 38 :: gs (putLastR Post h bw v n i x) 39 :: gs (putLastR Post h bw v n i x) 40 :: gs (putLastR Post h bw v n i x) 41 :: gs (putLastR Post h bw v n i x) 42 :: gs (putLastR Post h bw v n i x) 43 :: gs (putLastR Post h bw v n i x) 44 :: []) := by kernel_rfl
theorem putLast_def (Post : Value → World → Prop) (h : AH) (bw : Nat) (v : Nat) (n : Nat) (i : Nat) (x : Nat → AV) : putLastR Post h bw v n i x = E Post [] (putLastOv h bw v n i) putBody { t := T.ofList (.ptr (some (bw, 0)) :: .int .i64 (.ofNat v) :: .int .i64 (.ofNat n) :: x 3 :: x 4 :: x 5 :: x 6 :: .int .i64 (.ofNat i) :: x 8 :: x 9 :: x 10 :: x 11 :: x 12 :: x 13 :: x 14 :: x 15 :: x 16 :: x 17 :: x 18 :: x 19 :: x 20 :: x 21 :: x 22 :: x 23 :: x 24 :: x 25 :: x 26 :: x 27 :: x 28 :: x 29 :: x 30 :: x 31 :: x 32 :: x 33 :: x 34 :: x 35 :: x 36 :: x 37 :: x 38 :: x 39 :: x 40 :: x 41 :: x 42 :: x 43 :: x 44 :: []), n := 45, h := h, s := none } := by kernel_rfl
set_option maxRecDepth 100000 in
theorem putLast_C (Post : Value → World → Prop) (h : AH) (bw : Nat) (v : Nat) (n : Nat) (i : Nat) (x : Nat → AV) (hp : All [retV h (aBin Q .lss 3 false (.int .i64 (.ofNat i)) (.int .i64 (.ofNat n))) = some (.val (.bool false), h)]) : SndC Q Post putBody { t := T.ofList (.ptr (some (bw, 0)) :: .int .i64 (.ofNat v) :: .int .i64 (.ofNat n) :: x 3 :: x 4 :: x 5 :: x 6 :: .int .i64 (.ofNat i) :: x 8 :: x 9 :: x 10 :: x 11 :: x 12 :: x 13 :: x 14 :: x 15 :: x 16 :: x 17 :: x 18 :: x 19 :: x 20 :: x 21 :: x 22 :: x 23 :: x 24 :: x 25 :: x 26 :: x 27 :: x 28 :: x 29 :: x 30 :: x 31 :: x 32 :: x 33 :: x 34 :: x 35 :: x 36 :: x 37 :: x 38 :: x 39 :: x 40 :: x 41 :: x 42 :: x 43 :: x 44 :: []), n := 45, h := h, s := none } (.exit 0) { t := T.ofList (.ptr (some (bw, 0)) :: .int .i64 (.ofNat v) :: .int .i64 (.ofNat n) :: gs (putLastR Post h bw v n i x) 3 :: gs (putLastR Post h bw v n i x) 4 :: gs (putLastR Post h bw v n i x) 5 :: gs (putLastR Post h bw v n i x) 6 :: .int .i64 (.ofNat i) :: gs (putLastR Post h bw v n i x) 8 :: gs (putLastR Post h bw v n i x) 9 :: gs (putLastR Post h bw v n i x) 10 :: gs (putLastR Post h bw v n i x) 11 :: gs (putLastR Post h bw v n i x) 12 :: gs (putLastR Post h bw v n i x) 13 :: gs (putLastR Post h bw v n i x) 14 :: gs (putLastR Post h bw v n i x) 15 :: gs (putLastR Post h bw v n i x) 16 :: gs (putLastR Post h bw v n i x) 17 :: gs (putLastR Post h bw v n i x) 18 :: gs (putLastR Post h bw v n i x) 19 :: gs (putLastR Post h bw v n i x) 20 :: gs (putLastR Post h bw v n i x) 21 :: gs (putLastR Post h bw v n i x) 22 :: gs (putLastR Post h bw v n i x) 23 :: gs (putLastR Post h bw v n i x) 24 :: gs (putLastR Post h bw v n i x) 25 :: gs (putLastR Post h bw v n i x) 26 :: gs (putLastR Post h bw v n i x) 27 :: gs (putLastR Post h bw v n i x) 28 :: gs (putLastR Post h bw v n i x) 29 :: gs (putLastR Post h bw v n i x) 30 :: gs (putLastR Post h bw v n i x) 31 :: gs (putLastR Post h bw v n i x) 32 :: gs (putLastR Post h bw v n i x) 33 :: gs (putLastR Post h bw v n i x) 34 :: gs (putLastR Post h bw v n i x) 35 :: gs (putLastR Post h bw v n i x) 36 :: gs (putLastR Post h bw v n i x) 37 :: gs (putLastR Post h bw v n i x) 38 :: gs (putLastR Post h bw v n i x) 39 :: gs (putLastR Post h bw v n i x) 40 :: gs (putLastR Post h bw v n i x) 41 :: gs (putLastR Post h bw v n i x) 42 :: gs (putLastR Post h bw v n i x) 43 :: gs (putLastR Post h bw v n i x) 44 :: []), n := 45, h := h, s := none } :=
  canonC (runE TabsOk.nil (putLast_def Post h bw v n i x) (putLast_run Post h bw v n i x) hp) (putLast_slots Post h bw v n i x)

/-- A writer of these bits. -/
def WrAt (h : AH) (bw : Nat) (base : Option Nat) (L : List Nat) : Prop :=
  ∃ c sl, h.t.get bw = some (.cells 290 1 c false false) ∧ c.get 0 = some sl ∧ Row h sl L ∧ rowBase sl = base ∧ base ≠ some bw ∧ bw < h.n
/-- All stays but for two blocks. -/
def Keeps2 (h h' : AH) (bw : Nat) (base : Option Nat) : Prop := h.n ≤ h'.n ∧ ∀ k, k < h.n → k ≠ bw → base ≠ some k → h'.t.get k = h.t.get k
theorem load67 {h : AH} {b : Nat} {e : TypeId} {c : T AV} {op ro : Bool} {v : AV} (hb : h.t.get b = some (.cells e 1 c op ro)) (hc : c.get 0 = some v) : aLoad Q h 67 b 0 = some v := by
  have e1 : aIsAgg Q 67 = false := by kernel_rfl
  have e2 : aKnown Q 67 = true := by kernel_rfl
  simp [aLoad, hb, e1, e2, hc]
theorem store67 {h : AH} {b : Nat} {e : TypeId} {c : T AV} {op : Bool} {p : Option (Nat × Nat)} {l k : Nat} {o : Bool} (hb : h.t.get b = some (.cells e 1 c op false)) : aStore Q h 67 b 0 (.slice p l k o) = some { h with t := h.t.set b (.cells e 1 (c.set 0 (.slice p l k o)) op false) } := by
  have e1 : aSize Q 67 = some 1 := by kernel_rfl
  simp [aStore, e1, aPut, hb, AV.cells, AV.scalar, T.puts]
theorem conv_345 (h : AH) {i : Nat} (hi : i < 2 ^ 63) : aConvert Q h 3 345 (.int .i64 (.ofNat i)) = some (.val (.int .u64 (.ofNat i)), h) := by
  have e : aConvert Q h 3 345 (.int .i64 (.ofNat i)) = some (.val (.int .u64 (IntKind.u64.wrap (.ofNat i))), h) := by kernel_rfl
  rw [e, wrap_lim .u64 i (by show i < 18446744073709551616; omega)]
theorem conv_3_5 (h : AH) {i : Nat} (hi : i < 256) : aConvert Q h 3 5 (.int .i64 (.ofNat i)) = some (.val (byteV i), h) := by
  have e : aConvert Q h 3 5 (.int .i64 (.ofNat i)) = some (.val (.int .u8 (IntKind.u8.wrap (.ofNat i))), h) := by kernel_rfl
  rw [e, wrap_lim .u8 i hi]
  rfl
theorem row_slice {h : AH} {sl : AV} {L : List Nat} (hr : Row h sl L) : ∃ p l k o, sl = .slice p l k o := by
  rcases hr with ⟨_, rfl⟩ | ⟨b, c, rfl, _⟩ <;> exact ⟨_, _, _, _, rfl⟩
theorem Row.mono {h h' : AH} {sl : AV} {L : List Nat} (hr : Row h sl L) (hn : h.n ≤ h'.n) (hk : ∀ b, rowBase sl = some b → h'.t.get b = h.t.get b) : Row h' sl L := by
  rcases hr with ⟨e, rfl⟩ | ⟨b, c, rfl, h1, h2, h3⟩
  · exact .inl ⟨e, rfl⟩
  · exact .inr ⟨b, c, rfl, (hk b rfl).trans h1, h2, by omega⟩
/-- A byte is put behind the writer's. -/
theorem wr_append {h : AH} {bw : Nat} {base : Option Nat} {L : List Nat} (x : Nat) (hw : WrAt h bw base L) (hL : L.length < 2 ^ 39) :
    ∃ sl sl2 h2 h3, (∃ c, h.t.get bw = some (.cells 290 1 c false false) ∧ c.get 0 = some sl) ∧ aAppend Q (h.push (.cells 5 1 (T.ofList [byteV x]) false false)) [67, 67] [sl, .slice (some (h.n, 0)) 1 1 false] = some (.val sl2, h2) ∧
      aStore Q h2 67 bw 0 sl2 = some h3 ∧ WrAt h3 bw (some (h.n + 1)) (L ++ [x]) ∧ Keeps2 h h3 bw base := by
  obtain ⟨c, sl, h1, h2, h3, h4, h5, h6⟩ := hw
  have hlast : (h.push (.cells 5 1 (T.ofList [byteV x]) false false)).t.get h.n = some (.cells 5 1 (T.ofList [byteV x]) false false) := push_get h _
  have hold : ∀ k, k < h.n → (h.push (.cells 5 1 (T.ofList [byteV x]) false false)).t.get k = h.t.get k := fun k hk => by
    simp only [AH.push, T.get_set]; rw [if_neg (by omega)]
  have hrow : Row (h.push (.cells 5 1 (T.ofList [byteV x]) false false)) sl L := h3.mono (by simp [AH.push]) (fun b hb => hold b (by
    rcases h3 with ⟨_, rfl⟩ | ⟨b', _, rfl, _, _, hlt⟩
    · cases hb
    · cases hb; exact hlt))
  obtain ⟨sl2, g, q1, q2, q3, q4⟩ := append_row (xt := 67) (M := [x]) hrow (piece_one (b := h.n) (cap := 1) (op' := false) x hlast (by simp [T.get_ofList])) (by simp) (by simp; omega)
  obtain ⟨p, l, k, o, rfl⟩ := row_slice q2
  have hbw : g.t.get bw = some (.cells 290 1 c false false) := by
    rw [q3.get bw (by simp [AH.push]; omega) (by rw [h4]; exact h5), hold bw h6, h1]
  have hgn : h.n + 1 ≤ g.n := q3.n
  refine ⟨sl, _, g, _, ⟨c, h1, h2⟩, q1, store67 hbw, ⟨c.set 0 (.slice p l k o), .slice p l k o, by simp [T.get_set], by simp [T.get_set], ?_, by rw [q4]; rfl, fun e => by cases e; omega, by show bw < g.n; omega⟩, by show h.n ≤ g.n; omega, fun k hk hne hb => ?_⟩
  · refine q2.mono (Nat.le_refl _) fun b hb => ?_
    rw [q4] at hb
    cases hb
    simp only [T.get_set]
    rw [if_neg (by simp [AH.push]; omega)]
  · simp only [T.get_set]
    rw [if_neg (fun e => hne e.symm), q3.get k (by simp [AH.push]; omega) (by rw [h4]; exact hb), hold k hk]
theorem Keeps2.trans {h h' h'' : AH} {bw : Nat} {base base' : Option Nat} (h1 : Keeps2 h h' bw base) (h2 : Keeps2 h' h'' bw base') (hb : ∀ k, base' = some k → h.n ≤ k ∨ base = some k) : Keeps2 h h'' bw base :=
  ⟨Nat.le_trans h1.1 h2.1, fun k hk hne hbk => by
    rw [h2.2 k (Nat.lt_of_lt_of_le hk h1.1) hne (fun e => by
      rcases hb k e with h3 | h3
      · omega
      · exact hbk h3), h1.2 k hk hne hbk]⟩
def bitsFrom (v i : Nat) : Nat → List Nat
  | 0 => []
  | m + 1 => (v / 2 ^ i % 2) :: bitsFrom v (i + 1) m
theorem bitsFrom_length (v : Nat) : ∀ m i, (bitsFrom v i m).length = m
  | 0, _ => rfl
  | m + 1, i => by simp [bitsFrom, bitsFrom_length v m (i + 1)]
def putAOv : Nat → Nat → Option Ov
  | _, _ => none
noncomputable def putAR (Post : Value → World → Prop) (h : AH) (bw : Nat) (v : Nat) (n : Nat) (x : Nat → AV) : Option (Ex × AS × List Prop) := E Post [] putAOv (cfst (bodyOf Tryz.f271)) { t := T.ofList (.ptr (some (bw, 0)) :: .int .i64 (.ofNat v) :: .int .i64 (.ofNat n) :: x 3 :: x 4 :: x 5 :: x 6 :: x 7 :: x 8 :: x 9 :: x 10 :: x 11 :: x 12 :: x 13 :: x 14 :: x 15 :: x 16 :: x 17 :: x 18 :: x 19 :: x 20 :: x 21 :: x 22 :: x 23 :: x 24 :: x 25 :: x 26 :: x 27 :: x 28 :: x 29 :: x 30 :: x 31 :: x 32 :: x 33 :: x 34 :: x 35 :: x 36 :: x 37 :: x 38 :: x 39 :: x 40 :: x 41 :: x 42 :: x 43 :: x 44 :: []), n := 45, h := h, s := none }
theorem putA_run (Post : Value → World → Prop) (h : AH) (bw : Nat) (v : Nat) (n : Nat) (x : Nat → AV) : putAR Post h bw v n x = some (.normal, { t := tOf (putAR Post h bw v n x), n := 45, h := h, s := none },
    []) := by kernel_rfl
theorem putA_slots (Post : Value → World → Prop) (h : AH) (bw : Nat) (v : Nat) (n : Nat) (x : Nat → AV) : slots 45 (tOf (putAR Post h bw v n x)) = (.ptr (some (bw, 0)) :: .int .i64 (.ofNat v) :: .int .i64 (.ofNat n) :: gs (putAR Post h bw v n x) 3 :: gs (putAR Post h bw v n x) 4 :: gs (putAR Post h bw v n x) 5 :: gs (putAR Post h bw v n x) 6 :: gs (putAR Post h bw v n x) 7 :: gs (putAR Post h bw v n x) 8 :: gs (putAR Post h bw v n x) 9 :: gs (putAR Post h bw v n x) 10 :: gs (putAR Post h bw v n x) 11 :: gs (putAR Post h bw v n x) 12 :: gs (putAR Post h bw v n x) 13 :: gs (putAR Post h bw v n x) 14 :: gs (putAR Post h bw v n x) 15 :: gs (putAR Post h bw v n x) 16 :: gs (putAR Post h bw v n x) 17 :: gs (putAR Post h bw v n x) 18 :: gs (putAR Post h bw v n x) 19 :: gs (putAR Post h bw v n x) 20 :: gs (putAR Post h bw v n x) 21 :: gs (putAR Post h bw v n x) 22 :: gs (putAR Post h bw v n x) 23 :: gs (putAR Post h bw v n x) 24 :: gs (putAR Post h bw v n x) 25 :: gs (putAR Post h bw v n x) 26 :: gs (putAR Post h bw v n x) 27 :: gs (putAR Post h bw v n x) 28 :: gs (putAR Post h bw v n x) 29 :: gs (putAR Post h bw v n x) 30 :: gs (putAR Post h bw v n x) 31 :: gs (putAR Post h bw v n x) 32 :: gs (putAR Post h bw v n x) 33 :: gs (putAR Post h bw v n x) 34 :: gs (putAR Post h bw v n x) 35 :: gs (putAR Post h bw v n x) 36 :: gs (putAR Post h bw v n x) 37 :: gs (putAR Post h bw v n x) 38 :: gs (putAR Post h bw v n x) 39 :: gs (putAR Post h bw v n x) 40 :: gs (putAR Post h bw v n x) 41 :: gs (putAR Post h bw v n x) 42 :: gs (putAR Post h bw v n x) 43 :: gs (putAR Post h bw v n x) 44 :: []) := by kernel_rfl
def putBOv (h : AH) (_bw : Nat) (_v : Nat) (n : Nat) : Nat → Nat → Option Ov
  | 1, 1 => some (.val (.bool false) h)
  | 1, 4 => some (.val (.bool false) h)
  | 1, 8 => some (.val (.bool false) h)
  | 1, 13 => some (.val (.int .u64 (.ofNat n)) h)
  | 1, 14 => some (.val (.int .i64 (.ofNat (1 * 2 ^ n))) h)
  | 1, 15 => some (.val (.bool false) h)
  | _, _ => none
noncomputable def putBR (Post : Value → World → Prop) (h : AH) (bw : Nat) (v : Nat) (n : Nat) (x : Nat → AV) : Option (Ex × AS × List Prop) := E Post [] (putBOv h bw v n) (cfst (csnd (bodyOf Tryz.f271))) { t := T.ofList (.ptr (some (bw, 0)) :: .int .i64 (.ofNat v) :: .int .i64 (.ofNat n) :: x 3 :: x 4 :: x 5 :: x 6 :: x 7 :: x 8 :: x 9 :: x 10 :: x 11 :: x 12 :: x 13 :: x 14 :: x 15 :: x 16 :: x 17 :: x 18 :: x 19 :: x 20 :: x 21 :: x 22 :: x 23 :: x 24 :: x 25 :: x 26 :: x 27 :: x 28 :: x 29 :: x 30 :: x 31 :: x 32 :: x 33 :: x 34 :: x 35 :: x 36 :: x 37 :: x 38 :: x 39 :: x 40 :: x 41 :: x 42 :: x 43 :: x 44 :: []), n := 45, h := h, s := none }
theorem putB_run (Post : Value → World → Prop) (h : AH) (bw : Nat) (v : Nat) (n : Nat) (x : Nat → AV) : putBR Post h bw v n x = some (.normal, { t := tOf (putBR Post h bw v n x), n := 45, h := h, s := none },
    [retV h (aBin Q .lss 3 true (.int .i64 (.ofNat n)) (.int .i64 (.ofNat 0))) = some (.val (.bool false), h),
     retV h (aBin Q .gtr 3 true (.int .i64 (.ofNat n)) (.int .i64 (.ofNat 32))) = some (.val (.bool false), h),
     retV h (aBin Q .lss 3 true (.int .i64 (.ofNat v)) (.int .i64 (.ofNat 0))) = some (.val (.bool false), h),
     aConvert Q h 3 345 (.int .i64 (.ofNat n)) = some (.val (.int .u64 (.ofNat n)), h),
     retV h (aBin Q .shl 3 true (.int .i64 (.ofNat 1)) (.int .u64 (.ofNat n))) = some (.val (.int .i64 (.ofNat (1 * 2 ^ n))), h),
     retV h (aBin Q .geq 3 false (.int .i64 (.ofNat v)) (.int .i64 (.ofNat (1 * 2 ^ n)))) = some (.val (.bool false), h)]) := by kernel_rfl
theorem putB_slots (Post : Value → World → Prop) (h : AH) (bw : Nat) (v : Nat) (n : Nat) (x : Nat → AV) : slots 45 (tOf (putBR Post h bw v n x)) = (.ptr (some (bw, 0)) :: .int .i64 (.ofNat v) :: .int .i64 (.ofNat n) :: gs (putBR Post h bw v n x) 3 :: gs (putBR Post h bw v n x) 4 :: gs (putBR Post h bw v n x) 5 :: gs (putBR Post h bw v n x) 6 :: gs (putBR Post h bw v n x) 7 :: gs (putBR Post h bw v n x) 8 :: gs (putBR Post h bw v n x) 9 :: gs (putBR Post h bw v n x) 10 :: gs (putBR Post h bw v n x) 11 :: gs (putBR Post h bw v n x) 12 :: gs (putBR Post h bw v n x) 13 :: gs (putBR Post h bw v n x) 14 :: gs (putBR Post h bw v n x) 15 :: gs (putBR Post h bw v n x) 16 :: gs (putBR Post h bw v n x) 17 :: gs (putBR Post h bw v n x) 18 :: gs (putBR Post h bw v n x) 19 :: gs (putBR Post h bw v n x) 20 :: gs (putBR Post h bw v n x) 21 :: gs (putBR Post h bw v n x) 22 :: gs (putBR Post h bw v n x) 23 :: gs (putBR Post h bw v n x) 24 :: gs (putBR Post h bw v n x) 25 :: gs (putBR Post h bw v n x) 26 :: gs (putBR Post h bw v n x) 27 :: gs (putBR Post h bw v n x) 28 :: gs (putBR Post h bw v n x) 29 :: gs (putBR Post h bw v n x) 30 :: gs (putBR Post h bw v n x) 31 :: gs (putBR Post h bw v n x) 32 :: gs (putBR Post h bw v n x) 33 :: gs (putBR Post h bw v n x) 34 :: gs (putBR Post h bw v n x) 35 :: gs (putBR Post h bw v n x) 36 :: gs (putBR Post h bw v n x) 37 :: gs (putBR Post h bw v n x) 38 :: gs (putBR Post h bw v n x) 39 :: gs (putBR Post h bw v n x) 40 :: gs (putBR Post h bw v n x) 41 :: gs (putBR Post h bw v n x) 42 :: gs (putBR Post h bw v n x) 43 :: gs (putBR Post h bw v n x) 44 :: []) := by kernel_rfl
theorem putB_def (Post : Value → World → Prop) (h : AH) (bw : Nat) (v : Nat) (n : Nat) (x : Nat → AV) : putBR Post h bw v n x = E Post [] (putBOv h bw v n) (cfst (csnd (bodyOf Tryz.f271))) { t := T.ofList (.ptr (some (bw, 0)) :: .int .i64 (.ofNat v) :: .int .i64 (.ofNat n) :: x 3 :: x 4 :: x 5 :: x 6 :: x 7 :: x 8 :: x 9 :: x 10 :: x 11 :: x 12 :: x 13 :: x 14 :: x 15 :: x 16 :: x 17 :: x 18 :: x 19 :: x 20 :: x 21 :: x 22 :: x 23 :: x 24 :: x 25 :: x 26 :: x 27 :: x 28 :: x 29 :: x 30 :: x 31 :: x 32 :: x 33 :: x 34 :: x 35 :: x 36 :: x 37 :: x 38 :: x 39 :: x 40 :: x 41 :: x 42 :: x 43 :: x 44 :: []), n := 45, h := h, s := none } := by kernel_rfl
set_option maxRecDepth 100000 in
theorem putB_C (Post : Value → World → Prop) (h : AH) (bw : Nat) (v : Nat) (n : Nat) (x : Nat → AV) (hp : All [retV h (aBin Q .lss 3 true (.int .i64 (.ofNat n)) (.int .i64 (.ofNat 0))) = some (.val (.bool false), h),
     retV h (aBin Q .gtr 3 true (.int .i64 (.ofNat n)) (.int .i64 (.ofNat 32))) = some (.val (.bool false), h),
     retV h (aBin Q .lss 3 true (.int .i64 (.ofNat v)) (.int .i64 (.ofNat 0))) = some (.val (.bool false), h),
     aConvert Q h 3 345 (.int .i64 (.ofNat n)) = some (.val (.int .u64 (.ofNat n)), h),
     retV h (aBin Q .shl 3 true (.int .i64 (.ofNat 1)) (.int .u64 (.ofNat n))) = some (.val (.int .i64 (.ofNat (1 * 2 ^ n))), h),
     retV h (aBin Q .geq 3 false (.int .i64 (.ofNat v)) (.int .i64 (.ofNat (1 * 2 ^ n)))) = some (.val (.bool false), h)]) : SndC Q Post (cfst (csnd (bodyOf Tryz.f271))) { t := T.ofList (.ptr (some (bw, 0)) :: .int .i64 (.ofNat v) :: .int .i64 (.ofNat n) :: x 3 :: x 4 :: x 5 :: x 6 :: x 7 :: x 8 :: x 9 :: x 10 :: x 11 :: x 12 :: x 13 :: x 14 :: x 15 :: x 16 :: x 17 :: x 18 :: x 19 :: x 20 :: x 21 :: x 22 :: x 23 :: x 24 :: x 25 :: x 26 :: x 27 :: x 28 :: x 29 :: x 30 :: x 31 :: x 32 :: x 33 :: x 34 :: x 35 :: x 36 :: x 37 :: x 38 :: x 39 :: x 40 :: x 41 :: x 42 :: x 43 :: x 44 :: []), n := 45, h := h, s := none } (.normal) { t := T.ofList (.ptr (some (bw, 0)) :: .int .i64 (.ofNat v) :: .int .i64 (.ofNat n) :: gs (putBR Post h bw v n x) 3 :: gs (putBR Post h bw v n x) 4 :: gs (putBR Post h bw v n x) 5 :: gs (putBR Post h bw v n x) 6 :: gs (putBR Post h bw v n x) 7 :: gs (putBR Post h bw v n x) 8 :: gs (putBR Post h bw v n x) 9 :: gs (putBR Post h bw v n x) 10 :: gs (putBR Post h bw v n x) 11 :: gs (putBR Post h bw v n x) 12 :: gs (putBR Post h bw v n x) 13 :: gs (putBR Post h bw v n x) 14 :: gs (putBR Post h bw v n x) 15 :: gs (putBR Post h bw v n x) 16 :: gs (putBR Post h bw v n x) 17 :: gs (putBR Post h bw v n x) 18 :: gs (putBR Post h bw v n x) 19 :: gs (putBR Post h bw v n x) 20 :: gs (putBR Post h bw v n x) 21 :: gs (putBR Post h bw v n x) 22 :: gs (putBR Post h bw v n x) 23 :: gs (putBR Post h bw v n x) 24 :: gs (putBR Post h bw v n x) 25 :: gs (putBR Post h bw v n x) 26 :: gs (putBR Post h bw v n x) 27 :: gs (putBR Post h bw v n x) 28 :: gs (putBR Post h bw v n x) 29 :: gs (putBR Post h bw v n x) 30 :: gs (putBR Post h bw v n x) 31 :: gs (putBR Post h bw v n x) 32 :: gs (putBR Post h bw v n x) 33 :: gs (putBR Post h bw v n x) 34 :: gs (putBR Post h bw v n x) 35 :: gs (putBR Post h bw v n x) 36 :: gs (putBR Post h bw v n x) 37 :: gs (putBR Post h bw v n x) 38 :: gs (putBR Post h bw v n x) 39 :: gs (putBR Post h bw v n x) 40 :: gs (putBR Post h bw v n x) 41 :: gs (putBR Post h bw v n x) 42 :: gs (putBR Post h bw v n x) 43 :: gs (putBR Post h bw v n x) 44 :: []), n := 45, h := h, s := none } :=
  canonC (runE TabsOk.nil (putB_def Post h bw v n x) (putB_run Post h bw v n x) hp) (putB_slots Post h bw v n x)
def putCOv : Nat → Nat → Option Ov
  | _, _ => none
noncomputable def putCR (Post : Value → World → Prop) (h : AH) (bw : Nat) (v : Nat) (n : Nat) (x : Nat → AV) : Option (Ex × AS × List Prop) := E Post [] putCOv (cfst (cfst (csnd (csnd (bodyOf Tryz.f271))))) { t := T.ofList (.ptr (some (bw, 0)) :: .int .i64 (.ofNat v) :: .int .i64 (.ofNat n) :: x 3 :: x 4 :: x 5 :: x 6 :: x 7 :: x 8 :: x 9 :: x 10 :: x 11 :: x 12 :: x 13 :: x 14 :: x 15 :: x 16 :: x 17 :: x 18 :: x 19 :: x 20 :: x 21 :: x 22 :: x 23 :: x 24 :: x 25 :: x 26 :: x 27 :: x 28 :: x 29 :: x 30 :: x 31 :: x 32 :: x 33 :: x 34 :: x 35 :: x 36 :: x 37 :: x 38 :: x 39 :: x 40 :: x 41 :: x 42 :: x 43 :: x 44 :: []), n := 45, h := h, s := none }
theorem putC_run (Post : Value → World → Prop) (h : AH) (bw : Nat) (v : Nat) (n : Nat) (x : Nat → AV) : putCR Post h bw v n x = some (.normal, { t := tOf (putCR Post h bw v n x), n := 45, h := h, s := none },
    []) := by kernel_rfl
theorem putC_slots (Post : Value → World → Prop) (h : AH) (bw : Nat) (v : Nat) (n : Nat) (x : Nat → AV) : slots 45 (tOf (putCR Post h bw v n x)) = (.ptr (some (bw, 0)) :: .int .i64 (.ofNat v) :: .int .i64 (.ofNat n) :: gs (putCR Post h bw v n x) 3 :: gs (putCR Post h bw v n x) 4 :: gs (putCR Post h bw v n x) 5 :: gs (putCR Post h bw v n x) 6 :: .int .i64 (.ofNat 0) :: gs (putCR Post h bw v n x) 8 :: gs (putCR Post h bw v n x) 9 :: gs (putCR Post h bw v n x) 10 :: gs (putCR Post h bw v n x) 11 :: gs (putCR Post h bw v n x) 12 :: gs (putCR Post h bw v n x) 13 :: gs (putCR Post h bw v n x) 14 :: gs (putCR Post h bw v n x) 15 :: gs (putCR Post h bw v n x) 16 :: gs (putCR Post h bw v n x) 17 :: gs (putCR Post h bw v n x) 18 :: gs (putCR Post h bw v n x) 19 :: gs (putCR Post h bw v n x) 20 :: gs (putCR Post h bw v n x) 21 :: gs (putCR Post h bw v n x) 22 :: gs (putCR Post h bw v n x) 23 :: gs (putCR Post h bw v n x) 24 :: gs (putCR Post h bw v n x) 25 :: gs (putCR Post h bw v n x) 26 :: gs (putCR Post h bw v n x) 27 :: gs (putCR Post h bw v n x) 28 :: gs (putCR Post h bw v n x) 29 :: gs (putCR Post h bw v n x) 30 :: gs (putCR Post h bw v n x) 31 :: gs (putCR Post h bw v n x) 32 :: gs (putCR Post h bw v n x) 33 :: gs (putCR Post h bw v n x) 34 :: gs (putCR Post h bw v n x) 35 :: gs (putCR Post h bw v n x) 36 :: gs (putCR Post h bw v n x) 37 :: gs (putCR Post h bw v n x) 38 :: gs (putCR Post h bw v n x) 39 :: gs (putCR Post h bw v n x) 40 :: gs (putCR Post h bw v n x) 41 :: gs (putCR Post h bw v n x) 42 :: gs (putCR Post h bw v n x) 43 :: gs (putCR Post h bw v n x) 44 :: []) := by kernel_rfl
def putDOv : Nat → Nat → Option Ov
  | _, _ => none
noncomputable def putDR (Post : Value → World → Prop) (h : AH) (bw : Nat) (v : Nat) (n : Nat) (i : Nat) (x : Nat → AV) : Option (Ex × AS × List Prop) := E Post [] putDOv (csnd (csnd (csnd (bodyOf Tryz.f271)))) { t := T.ofList (.ptr (some (bw, 0)) :: .int .i64 (.ofNat v) :: .int .i64 (.ofNat n) :: x 3 :: x 4 :: x 5 :: x 6 :: .int .i64 (.ofNat i) :: x 8 :: x 9 :: x 10 :: x 11 :: x 12 :: x 13 :: x 14 :: x 15 :: x 16 :: x 17 :: x 18 :: x 19 :: x 20 :: x 21 :: x 22 :: x 23 :: x 24 :: x 25 :: x 26 :: x 27 :: x 28 :: x 29 :: x 30 :: x 31 :: x 32 :: x 33 :: x 34 :: x 35 :: x 36 :: x 37 :: x 38 :: x 39 :: x 40 :: x 41 :: x 42 :: x 43 :: x 44 :: []), n := 45, h := h, s := none }
theorem putD_run (Post : Value → World → Prop) (h : AH) (bw : Nat) (v : Nat) (n : Nat) (i : Nat) (x : Nat → AV) : putDR Post h bw v n i x = some (.ret, { t := tOf (putDR Post h bw v n i x), n := 45, h := h, s := none },
    []) := by kernel_rfl
theorem putD_res (Post : Value → World → Prop) (h : AH) (bw : Nat) (v : Nat) (n : Nat) (i : Nat) (x : Nat → AV) : aResults Q Tryz.f271 { t := tOf (putDR Post h bw v n i x), n := 45, h := h, s := none } = some (.int .i64 (.ofNat 0)) := by kernel_rfl

noncomputable abbrev putSt (h : AH) (bw v n i : Nat) (x : Nat → AV) : AS := { t := T.ofList (.ptr (some (bw, 0)) :: .int .i64 (.ofNat v) :: .int .i64 (.ofNat n) :: x 3 :: x 4 :: x 5 :: x 6 :: .int .i64 (.ofNat i) :: x 8 :: x 9 :: x 10 :: x 11 :: x 12 :: x 13 :: x 14 :: x 15 :: x 16 :: x 17 :: x 18 :: x 19 :: x 20 :: x 21 :: x 22 :: x 23 :: x 24 :: x 25 :: x 26 :: x 27 :: x 28 :: x 29 :: x 30 :: x 31 :: x 32 :: x 33 :: x 34 :: x 35 :: x 36 :: x 37 :: x 38 :: x 39 :: x 40 :: x 41 :: x 42 :: x 43 :: x 44 :: []), n := 45, h := h, s := none }
set_option maxRecDepth 100000 in
theorem put_loop (Post : Value → World → Prop) {bw v n : Nat} (hn : n ≤ 32) : ∀ (m i : Nat) (h : AH) (base : Option Nat) (L : List Nat) (x : Nat → AV), i + m = n → WrAt h bw base L → L.length + m < 2 ^ 39 →
    ∃ h' base' x', SndL Q Post putBody (putSt h bw v n i x) (.exit 0) (putSt h' bw v n n x') ∧ WrAt h' bw base' (L ++ bitsFrom v i m) ∧ Keeps2 h h' bw base ∧ (m = 0 → base' = base) ∧ (m ≠ 0 → ∃ k, base' = some k ∧ h.n ≤ k)
  | 0, i, h, base, L, x, him, hw, hL => by
    have hi : i = n := by omega
    subst hi
    have h1 : SndC Q Post putBody (putSt h bw v i i x) (.exit 0) (putSt h bw v i i (gs (putLastR Post h bw v i i x))) :=
      canonC (SndC.run TabsOk.nil (putLast_run Post h bw v i i x) ⟨retV_of (by rw [aBin_lss, decide_eq_false (by omega)]), trivial⟩) (putLast_slots Post h bw v i i x)
    exact ⟨h, base, _, .done h1 (by simp), by simpa [bitsFrom] using hw, ⟨Nat.le_refl _, fun _ _ _ _ => rfl⟩, fun _ => rfl, fun e => absurd rfl e⟩
  | m + 1, i, h, base, L, x, him, hw, hL => by
    obtain ⟨sl, sl2, h2, h3, ⟨c, q1, q2⟩, q3, q4, q5, q6⟩ := wr_append (v / 2 ^ i % 2) hw (by omega)
    have hi : i < n := by omega
    have h1 : SndC Q Post putBody (putSt h bw v n i x) .normal (putSt h3 bw v n (i + 1) (gs (putRoundR Post h h2 h3 sl sl2 bw v n i x))) :=
      canonC (SndC.run TabsOk.nil (putRound_run Post h h2 h3 sl sl2 bw v n i x) (by refine ⟨retV_of (by rw [aBin_lss, decide_eq_true hi]), retV_of (load67 q1 q2), conv_345 h (by omega), retV_of (aBin_shr (by simp [IntKind.bits]; omega)), retV_of (aBin_rem (by decide)), conv_3_5 h (by omega), q3, by rw [q4]; rfl, retV_of (aBin_add (show i + 1 < 9223372036854775808 by omega)), trivial⟩)) (putRound_slots Post h h2 h3 sl sl2 bw v n i x)
    obtain ⟨h', base', x', r1, r2, r3, r4, r5⟩ := put_loop Post hn m (i + 1) h3 (some (h.n + 1)) (L ++ [v / 2 ^ i % 2]) (gs (putRoundR Post h h2 h3 sl sl2 bw v n i x)) (by omega) q5 (by simp; omega)
    refine ⟨h', base', x', .step h1 r1, by simpa [bitsFrom] using r2, q6.trans r3 (fun k hk => by cases hk; exact .inl (by omega)), fun e => by omega, fun _ => ?_⟩
    cases m with
    | zero => exact ⟨_, r4 rfl, by omega⟩
    | succ m =>
      obtain ⟨k, hk, hk'⟩ := r5 (by omega)
      exact ⟨k, hk, by have := q6.1; omega⟩
set_option maxRecDepth 100000 in
theorem put_snd (Post : Value → World → Prop) {h : AH} {bw v n : Nat} {base : Option Nat} {L : List Nat} (hn : n ≤ 32) (hv : v < 2 ^ n) (hw : WrAt h bw base L) (hL : L.length + n < 2 ^ 39) :
    ∃ h' base', SndF Q Post 271 [.ptr (some (bw, 0)), .int .i64 (.ofNat v), .int .i64 (.ofNat n)] h none (.int .i64 (.ofNat 0)) h' none ∧ WrAt h' bw base' (L ++ bitsFrom v 0 n) ∧ Keeps2 h h' bw base ∧ (n ≠ 0 → ∃ k, base' = some k ∧ h.n ≤ k) := by
  let x0 : Nat → AV := fun _ => .tuple []
  have hA := canonC (SndC.run TabsOk.nil (putA_run Post h bw v n x0) trivial) (putA_slots Post h bw v n x0)
  have hv64 : 1 * 2 ^ n < 9223372036854775808 := by
    have : 2 ^ n ≤ 2 ^ 32 := Nat.pow_le_pow_right (by decide) hn
    omega
  let x1 := gs (putAR Post h bw v n x0)
  have hB := canonC (SndC.run TabsOk.nil (putB_run Post h bw v n x1) ⟨retV_of (by rw [aBin_lss, decide_eq_false (by omega)]), retV_of (by rw [aBin_gtr, decide_eq_false (by omega)]), retV_of (by rw [aBin_lss, decide_eq_false (by omega)]), conv_345 h (by omega), retV_of (aBin_shl (by simp [IntKind.bits]; omega) hv64), retV_of (by rw [aBin_geq, decide_eq_false (by omega)]), trivial⟩) (putB_slots Post h bw v n x1)
  let x2 := gs (putBR Post h bw v n x1)
  have hC := canonC (SndC.run TabsOk.nil (putC_run Post h bw v n x2) trivial) (putC_slots Post h bw v n x2)
  let x3 := gs (putCR Post h bw v n x2)
  obtain ⟨h', base', x4, r1, r2, r3, _, r5⟩ := put_loop Post (bw := bw) (v := v) hn n 0 h base L x3 (by omega) hw hL
  have hD := SndC.run TabsOk.nil (putD_run Post h' bw v n n x4) trivial
  refine ⟨h', base', ?_, r2, r3, r5⟩
  have body : SndC Q Post (bodyOf Tryz.f271) { t := T.ofList [.ptr (some (bw, 0)), .int .i64 (.ofNat v), .int .i64 (.ofNat n)], n := 45, h := h, s := none } .ret _ :=
    enterC (.seq hA (.seq hB (.seq (.seq hC (.blockExit (.loop r1))) hD))) (by rfl)
  exact SndF.of (by kernel_rfl) Tryz.func271 rfl body (.inl rfl) (putD_res Post h' bw v n n x4)

/-- All stays but the writer's own: its row may be a new one. -/
def Grown (h h' : AH) (bw : Nat) (base base' : Option Nat) : Prop := Keeps2 h h' bw base ∧ (base' = base ∨ ∃ k, base' = some k ∧ h.n ≤ k)
theorem Grown.refl (h : AH) (bw : Nat) (base : Option Nat) : Grown h h bw base base := ⟨⟨Nat.le_refl _, fun _ _ _ _ => rfl⟩, .inl rfl⟩
theorem Grown.trans {h h' h'' : AH} {bw : Nat} {base base' base'' : Option Nat} (h1 : Grown h h' bw base base') (h2 : Grown h' h'' bw base' base'') : Grown h h'' bw base base'' := by
  refine ⟨h1.1.trans h2.1 fun k hk => ?_, ?_⟩
  · rcases h1.2 with e | ⟨k', e, hk'⟩
    · exact .inr (e ▸ hk)
    · rw [hk] at e; cases e; exact .inl hk'
  · rcases h2.2 with rfl | ⟨k, rfl, hk⟩
    · exact h1.2
    · exact .inr ⟨k, rfl, Nat.le_trans h1.1.1 hk⟩
theorem wr_grow {h : AH} {bw : Nat} {base : Option Nat} {L : List Nat} (x : Nat) (hw : WrAt h bw base L) (hL : L.length < 2 ^ 39) :
    ∃ sl sl2 h2 h3, (∃ c, h.t.get bw = some (.cells 290 1 c false false) ∧ c.get 0 = some sl) ∧ aAppend Q (h.push (.cells 5 1 (T.ofList [byteV x]) false false)) [67, 67] [sl, .slice (some (h.n, 0)) 1 1 false] = some (.val sl2, h2) ∧
      aStore Q h2 67 bw 0 sl2 = some h3 ∧ WrAt h3 bw (some (h.n + 1)) (L ++ [x]) ∧ Grown h h3 bw base (some (h.n + 1)) ∧ Row h sl L := by
  obtain ⟨sl, sl2, h2, h3, ⟨c, q1, q2⟩, q3, q4, q5, q6⟩ := wr_append x hw hL
  obtain ⟨c', sl', w1, w2, w3, _⟩ := hw
  rw [w1] at q1; cases q1
  rw [w2] at q2; cases q2
  exact ⟨_, sl2, h2, h3, ⟨_, w1, w2⟩, q3, q4, q5, ⟨q6, .inr ⟨_, rfl, by omega⟩⟩, w3⟩
theorem put_grow (Post : Value → World → Prop) {h : AH} {bw v n : Nat} {base : Option Nat} {L : List Nat} (hn : n ≤ 32) (hv : v < 2 ^ n) (hw : WrAt h bw base L) (hL : L.length + n < 2 ^ 39) (h0 : n ≠ 0) :
    ∃ h' base', SndF Q Post 271 [.ptr (some (bw, 0)), .int .i64 (.ofNat v), .int .i64 (.ofNat n)] h none (.int .i64 (.ofNat 0)) h' none ∧ WrAt h' bw base' (L ++ bitsFrom v 0 n) ∧ Grown h h' bw base base' := by
  obtain ⟨h', base', r1, r2, r3, r4⟩ := put_snd Post hn hv hw hL
  exact ⟨h', base', r1, r2, r3, .inr (r4 h0)⟩
theorem row_len {h : AH} {sl : AV} {L : List Nat} (hr : Row h sl L) : aLen Q 67 h sl = some (.int .i64 (.ofNat L.length)) := by
  rcases hr with ⟨rfl, rfl⟩ | ⟨b, c, rfl, _⟩ <;> simp only [aLen, und67] <;> rfl
noncomputable abbrev alBody : Code := (cinn (cinn (bodyOf Tryz.f272)))
def alRoundOv (h : AH) (h2 : AH) (h3 : AH) (sl : AV) (sl2 : AV) (_bw : Nat) (n : Nat) : Nat → Nat → Option Ov
  | 0, 3 => some (.val (sl) h)
  | 0, 4 => some (.val (.int .i64 (.ofNat n)) h)
  | 0, 5 => some (.val (.int .i64 (.ofNat (n % 8))) h)
  | 0, 6 => some (.val (.bool true) h)
  | 1, 4 => some (.val (sl) h)
  | 1, 6 => some (.val sl2 h2)
  | 1, 9 => some (.skip h3)
  | _, _ => none
noncomputable def alRoundR (Post : Value → World → Prop) (h : AH) (h2 : AH) (h3 : AH) (sl : AV) (sl2 : AV) (bw : Nat) (n : Nat) (x : Nat → AV) : Option (Ex × AS × List Prop) := E Post [] (alRoundOv h h2 h3 sl sl2 bw n) alBody { t := T.ofList (.ptr (some (bw, 0)) :: x 1 :: x 2 :: x 3 :: x 4 :: x 5 :: x 6 :: x 7 :: x 8 :: x 9 :: x 10 :: x 11 :: x 12 :: x 13 :: x 14 :: x 15 :: x 16 :: x 17 :: []), n := 18, h := h, s := none }
theorem alRound_run (Post : Value → World → Prop) (h : AH) (h2 : AH) (h3 : AH) (sl : AV) (sl2 : AV) (bw : Nat) (n : Nat) (x : Nat → AV) : alRoundR Post h h2 h3 sl sl2 bw n x = some (.normal, { t := tOf (alRoundR Post h h2 h3 sl sl2 bw n x), n := 18, h := h3, s := none },
    [retV h (aLoad Q h 67 bw 0) = some (.val (sl), h),
     retV h (aLen Q 67 h sl) = some (.val (.int .i64 (.ofNat n)), h),
     retV h (aBin Q .rem 3 true (.int .i64 (.ofNat n)) (.int .i64 (.ofNat 8))) = some (.val (.int .i64 (.ofNat (n % 8))), h),
     retV h (aBin Q .neq 3 true (.int .i64 (.ofNat (n % 8))) (.int .i64 (.ofNat 0))) = some (.val (.bool true), h),
     retV h (aLoad Q h 67 bw 0) = some (.val (sl), h),
     aAppend Q (h.push (.cells 5 1 (T.ofList [byteV 0]) false false)) [67, 67] [sl, .slice (some (h.n, 0)) 1 1 false] = some (.val sl2, h2),
     (aStore Q h2 67 bw 0 (sl2)).map (fun h => (ARes.skip, h)) = some (.skip, h3)]) := by kernel_rfl
theorem alRound_slots (Post : Value → World → Prop) (h : AH) (h2 : AH) (h3 : AH) (sl : AV) (sl2 : AV) (bw : Nat) (n : Nat) (x : Nat → AV) : slots 18 (tOf (alRoundR Post h h2 h3 sl sl2 bw n x)) = (.ptr (some (bw, 0)) :: gs (alRoundR Post h h2 h3 sl sl2 bw n x) 1 :: gs (alRoundR Post h h2 h3 sl sl2 bw n x) 2 :: gs (alRoundR Post h h2 h3 sl sl2 bw n x) 3 :: gs (alRoundR Post h h2 h3 sl sl2 bw n x) 4 :: gs (alRoundR Post h h2 h3 sl sl2 bw n x) 5 :: gs (alRoundR Post h h2 h3 sl sl2 bw n x) 6 :: gs (alRoundR Post h h2 h3 sl sl2 bw n x) 7 :: gs (alRoundR Post h h2 h3 sl sl2 bw n x) 8 :: gs (alRoundR Post h h2 h3 sl sl2 bw n x) 9 :: gs (alRoundR Post h h2 h3 sl sl2 bw n x) 10 :: gs (alRoundR Post h h2 h3 sl sl2 bw n x) 11 :: gs (alRoundR Post h h2 h3 sl sl2 bw n x) 12 :: gs (alRoundR Post h h2 h3 sl sl2 bw n x) 13 :: gs (alRoundR Post h h2 h3 sl sl2 bw n x) 14 :: gs (alRoundR Post h h2 h3 sl sl2 bw n x) 15 :: gs (alRoundR Post h h2 h3 sl sl2 bw n x) 16 :: gs (alRoundR Post h h2 h3 sl sl2 bw n x) 17 :: []) := by kernel_rfl
theorem alRound_def (Post : Value → World → Prop) (h : AH) (h2 : AH) (h3 : AH) (sl : AV) (sl2 : AV) (bw : Nat) (n : Nat) (x : Nat → AV) : alRoundR Post h h2 h3 sl sl2 bw n x = E Post [] (alRoundOv h h2 h3 sl sl2 bw n) alBody { t := T.ofList (.ptr (some (bw, 0)) :: x 1 :: x 2 :: x 3 :: x 4 :: x 5 :: x 6 :: x 7 :: x 8 :: x 9 :: x 10 :: x 11 :: x 12 :: x 13 :: x 14 :: x 15 :: x 16 :: x 17 :: []), n := 18, h := h, s := none } := by kernel_rfl
set_option maxRecDepth 100000 in
theorem alRound_C (Post : Value → World → Prop) (h : AH) (h2 : AH) (h3 : AH) (sl : AV) (sl2 : AV) (bw : Nat) (n : Nat) (x : Nat → AV) (hp : All [retV h (aLoad Q h 67 bw 0) = some (.val (sl), h),
     retV h (aLen Q 67 h sl) = some (.val (.int .i64 (.ofNat n)), h),
     retV h (aBin Q .rem 3 true (.int .i64 (.ofNat n)) (.int .i64 (.ofNat 8))) = some (.val (.int .i64 (.ofNat (n % 8))), h),
     retV h (aBin Q .neq 3 true (.int .i64 (.ofNat (n % 8))) (.int .i64 (.ofNat 0))) = some (.val (.bool true), h),
     retV h (aLoad Q h 67 bw 0) = some (.val (sl), h),
     aAppend Q (h.push (.cells 5 1 (T.ofList [byteV 0]) false false)) [67, 67] [sl, .slice (some (h.n, 0)) 1 1 false] = some (.val sl2, h2),
     (aStore Q h2 67 bw 0 (sl2)).map (fun h => (ARes.skip, h)) = some (.skip, h3)]) : SndC Q Post alBody { t := T.ofList (.ptr (some (bw, 0)) :: x 1 :: x 2 :: x 3 :: x 4 :: x 5 :: x 6 :: x 7 :: x 8 :: x 9 :: x 10 :: x 11 :: x 12 :: x 13 :: x 14 :: x 15 :: x 16 :: x 17 :: []), n := 18, h := h, s := none } (.normal) { t := T.ofList (.ptr (some (bw, 0)) :: gs (alRoundR Post h h2 h3 sl sl2 bw n x) 1 :: gs (alRoundR Post h h2 h3 sl sl2 bw n x) 2 :: gs (alRoundR Post h h2 h3 sl sl2 bw n x) 3 :: gs (alRoundR Post h h2 h3 sl sl2 bw n x) 4 :: gs (alRoundR Post h h2 h3 sl sl2 bw n x) 5 :: gs (alRoundR Post h h2 h3 sl sl2 bw n x) 6 :: gs (alRoundR Post h h2 h3 sl sl2 bw n x) 7 :: gs (alRoundR Post h h2 h3 sl sl2 bw n x) 8 :: gs (alRoundR Post h h2 h3 sl sl2 bw n x) 9 :: gs (alRoundR Post h h2 h3 sl sl2 bw n x) 10 :: gs (alRoundR Post h h2 h3 sl sl2 bw n x) 11 :: gs (alRoundR Post h h2 h3 sl sl2 bw n x) 12 :: gs (alRoundR Post h h2 h3 sl sl2 bw n x) 13 :: gs (alRoundR Post h h2 h3 sl sl2 bw n x) 14 :: gs (alRoundR Post h h2 h3 sl sl2 bw n x) 15 :: gs (alRoundR Post h h2 h3 sl sl2 bw n x) 16 :: gs (alRoundR Post h h2 h3 sl sl2 bw n x) 17 :: []), n := 18, h := h3, s := none } :=
  canonC (runE TabsOk.nil (alRound_def Post h h2 h3 sl sl2 bw n x) (alRound_run Post h h2 h3 sl sl2 bw n x) hp) (alRound_slots Post h h2 h3 sl sl2 bw n x)
def alLastOv (h : AH) (sl : AV) (_bw : Nat) (n : Nat) : Nat → Nat → Option Ov
  | 0, 3 => some (.val (sl) h)
  | 0, 4 => some (.val (.int .i64 (.ofNat n)) h)
  | 0, 5 => some (.val (.int .i64 (.ofNat (n % 8))) h)
  | 0, 6 => some (.val (.bool false) h)
  | _, _ => none
noncomputable def alLastR (Post : Value → World → Prop) (h : AH) (sl : AV) (bw : Nat) (n : Nat) (x : Nat → AV) : Option (Ex × AS × List Prop) := E Post [] (alLastOv h sl bw n) alBody { t := T.ofList (.ptr (some (bw, 0)) :: x 1 :: x 2 :: x 3 :: x 4 :: x 5 :: x 6 :: x 7 :: x 8 :: x 9 :: x 10 :: x 11 :: x 12 :: x 13 :: x 14 :: x 15 :: x 16 :: x 17 :: []), n := 18, h := h, s := none }
theorem alLast_run (Post : Value → World → Prop) (h : AH) (sl : AV) (bw : Nat) (n : Nat) (x : Nat → AV) : alLastR Post h sl bw n x = some (.exit 0, { t := tOf (alLastR Post h sl bw n x), n := 18, h := h, s := none },
    [retV h (aLoad Q h 67 bw 0) = some (.val (sl), h),
     retV h (aLen Q 67 h sl) = some (.val (.int .i64 (.ofNat n)), h),
     retV h (aBin Q .rem 3 true (.int .i64 (.ofNat n)) (.int .i64 (.ofNat 8))) = some (.val (.int .i64 (.ofNat (n % 8))), h),
     retV h (aBin Q .neq 3 true (.int .i64 (.ofNat (n % 8))) (.int .i64 (.ofNat 0))) = some (.val (.bool false), h)]) := by kernel_rfl
theorem alLast_slots (Post : Value → World → Prop) (h : AH) (sl : AV) (bw : Nat) (n : Nat) (x : Nat → AV) : slots 18 (tOf (alLastR Post h sl bw n x)) = (.ptr (some (bw, 0)) :: gs (alLastR Post h sl bw n x) 1 :: gs (alLastR Post h sl bw n x) 2 :: gs (alLastR Post h sl bw n x) 3 :: gs (alLastR Post h sl bw n x) 4 :: gs (alLastR Post h sl bw n x) 5 :: gs (alLastR Post h sl bw n x) 6 :: gs (alLastR Post h sl bw n x) 7 :: gs (alLastR Post h sl bw n x) 8 :: gs (alLastR Post h sl bw n x) 9 :: gs (alLastR Post h sl bw n x) 10 :: gs (alLastR Post h sl bw n x) 11 :: gs (alLastR Post h sl bw n x) 12 :: gs (alLastR Post h sl bw n x) 13 :: gs (alLastR Post h sl bw n x) 14 :: gs (alLastR Post h sl bw n x) 15 :: gs (alLastR Post h sl bw n x) 16 :: gs (alLastR Post h sl bw n x) 17 :: []) := by kernel_rfl
theorem alLast_def (Post : Value → World → Prop) (h : AH) (sl : AV) (bw : Nat) (n : Nat) (x : Nat → AV) : alLastR Post h sl bw n x = E Post [] (alLastOv h sl bw n) alBody { t := T.ofList (.ptr (some (bw, 0)) :: x 1 :: x 2 :: x 3 :: x 4 :: x 5 :: x 6 :: x 7 :: x 8 :: x 9 :: x 10 :: x 11 :: x 12 :: x 13 :: x 14 :: x 15 :: x 16 :: x 17 :: []), n := 18, h := h, s := none } := by kernel_rfl
set_option maxRecDepth 100000 in
theorem alLast_C (Post : Value → World → Prop) (h : AH) (sl : AV) (bw : Nat) (n : Nat) (x : Nat → AV) (hp : All [retV h (aLoad Q h 67 bw 0) = some (.val (sl), h),
     retV h (aLen Q 67 h sl) = some (.val (.int .i64 (.ofNat n)), h),
     retV h (aBin Q .rem 3 true (.int .i64 (.ofNat n)) (.int .i64 (.ofNat 8))) = some (.val (.int .i64 (.ofNat (n % 8))), h),
     retV h (aBin Q .neq 3 true (.int .i64 (.ofNat (n % 8))) (.int .i64 (.ofNat 0))) = some (.val (.bool false), h)]) : SndC Q Post alBody { t := T.ofList (.ptr (some (bw, 0)) :: x 1 :: x 2 :: x 3 :: x 4 :: x 5 :: x 6 :: x 7 :: x 8 :: x 9 :: x 10 :: x 11 :: x 12 :: x 13 :: x 14 :: x 15 :: x 16 :: x 17 :: []), n := 18, h := h, s := none } (.exit 0) { t := T.ofList (.ptr (some (bw, 0)) :: gs (alLastR Post h sl bw n x) 1 :: gs (alLastR Post h sl bw n x) 2 :: gs (alLastR Post h sl bw n x) 3 :: gs (alLastR Post h sl bw n x) 4 :: gs (alLastR Post h sl bw n x) 5 :: gs (alLastR Post h sl bw n x) 6 :: gs (alLastR Post h sl bw n x) 7 :: gs (alLastR Post h sl bw n x) 8 :: gs (alLastR Post h sl bw n x) 9 :: gs (alLastR Post h sl bw n x) 10 :: gs (alLastR Post h sl bw n x) 11 :: gs (alLastR Post h sl bw n x) 12 :: gs (alLastR Post h sl bw n x) 13 :: gs (alLastR Post h sl bw n x) 14 :: gs (alLastR Post h sl bw n x) 15 :: gs (alLastR Post h sl bw n x) 16 :: gs (alLastR Post h sl bw n x) 17 :: []), n := 18, h := h, s := none } :=
  canonC (runE TabsOk.nil (alLast_def Post h sl bw n x) (alLast_run Post h sl bw n x) hp) (alLast_slots Post h sl bw n x)

noncomputable abbrev alSt (h : AH) (bw : Nat) (x : Nat → AV) : AS := { t := T.ofList (.ptr (some (bw, 0)) :: x 1 :: x 2 :: x 3 :: x 4 :: x 5 :: x 6 :: x 7 :: x 8 :: x 9 :: x 10 :: x 11 :: x 12 :: x 13 :: x 14 :: x 15 :: x 16 :: x 17 :: []), n := 18, h := h, s := none }
set_option maxRecDepth 100000 in
theorem al_loop (Post : Value → World → Prop) {bw : Nat} : ∀ (m : Nat) (h : AH) (base : Option Nat) (L : List Nat) (x : Nat → AV), (8 - L.length % 8) % 8 = m → WrAt h bw base L → L.length + m < 2 ^ 39 →
    ∃ h' base' x', SndL Q Post alBody (alSt h bw x) (.exit 0) (alSt h' bw x') ∧ WrAt h' bw base' (L ++ List.replicate m 0) ∧ Grown h h' bw base base'
  | 0, h, base, L, x, hm, hw, hL => by
    obtain ⟨c, sl, w1, w2, w3, w4⟩ := hw
    have hz : (L.length % 8 != 0) = false := by
      have : L.length % 8 = 0 := by omega
      simp [this]
    have hd := SndC.run TabsOk.nil (alLast_run Post h sl bw L.length x) (by refine ⟨retV_of (load67 w1 w2), retV_of (row_len w3), retV_of (aBin_rem (by decide)), retV_of (by rw [aBin_neq, hz]), trivial⟩)
    exact ⟨h, base, _, .done (canonC hd (alLast_slots Post h sl bw L.length x)) (by simp), by simpa using ⟨c, sl, w1, w2, w3, w4⟩, .refl h bw base⟩
  | m + 1, h, base, L, x, hm, hw, hL => by
    obtain ⟨sl, sl2, h2, h3, ⟨c, q1, q2⟩, q3, q4, q5, q6, q7⟩ := wr_grow 0 hw (by omega)
    have hz : (L.length % 8 != 0) = true := by
      have : L.length % 8 ≠ 0 := by omega
      simp [this]
    have hd := SndC.run TabsOk.nil (alRound_run Post h h2 h3 sl sl2 bw L.length x) (by refine ⟨retV_of (load67 q1 q2), retV_of (row_len q7), retV_of (aBin_rem (by decide)), retV_of (by rw [aBin_neq, hz]), retV_of (load67 q1 q2), q3, by rw [q4]; rfl, trivial⟩)
    obtain ⟨h', base', x', r1, r2, r3⟩ := al_loop Post m h3 (some (h.n + 1)) (L ++ [0]) (gs (alRoundR Post h h2 h3 sl sl2 bw L.length x)) (by rw [List.length_append, List.length_singleton]; omega) q5 (by rw [List.length_append, List.length_singleton]; omega)
    refine ⟨h', base', x', .step (canonC hd (alRound_slots Post h h2 h3 sl sl2 bw L.length x)) r1, ?_, q6.trans r3⟩
    rw [List.append_assoc] at r2
    exact r2
theorem align_snd (Post : Value → World → Prop) {h : AH} {bw : Nat} {base : Option Nat} {L : List Nat} (hw : WrAt h bw base L) (hL : L.length < 2 ^ 38) :
    ∃ h' base', SndF Q Post 272 [.ptr (some (bw, 0))] h none (.tuple []) h' none ∧ WrAt h' bw base' (L ++ List.replicate ((8 - L.length % 8) % 8) 0) ∧ Grown h h' bw base base' := by
  obtain ⟨h', base', x', r1, r2, r3⟩ := al_loop Post _ h base L (fun _ => .tuple []) rfl hw (by omega)
  refine ⟨h', base', ?_, r2, r3⟩
  have body : SndC Q Post (bodyOf Tryz.f272) { t := T.ofList [.ptr (some (bw, 0))], n := 18, h := h, s := none } .normal _ := enterC (.blockExit (.loop r1)) (by rfl)
  exact SndF.of (by kernel_rfl) Tryz.func272 rfl body (.inr rfl) (by rfl)
def byAOv (_h : AH) (h2 : AH) (bw : Nat) (_l : List UInt8) : Nat → Nat → Option Ov
  | 0, 1 => some (.call 272 [.ptr (some (bw, 0))] (.tuple []) h2)
  | _, _ => none
noncomputable def byAR (Post : Value → World → Prop) (h : AH) (h2 : AH) (bw : Nat) (l : List UInt8) (x : Nat → AV) : Option (Ex × AS × List Prop) := E Post [] (byAOv h h2 bw l) (cfst (bodyOf Tryz.f179)) { t := T.ofList (.ptr (some (bw, 0)) :: .str l :: x 2 :: x 3 :: x 4 :: x 5 :: x 6 :: x 7 :: x 8 :: x 9 :: x 10 :: x 11 :: x 12 :: x 13 :: x 14 :: x 15 :: x 16 :: x 17 :: x 18 :: []), n := 19, h := h, s := none }
theorem byA_run (Post : Value → World → Prop) (h : AH) (h2 : AH) (bw : Nat) (l : List UInt8) (x : Nat → AV) : byAR Post h h2 bw l x = some (.normal, { t := tOf (byAR Post h h2 bw l x), n := 19, h := h2, s := none },
    [some (ARes.call 272 [.ptr (some (bw, 0))], h) = some (ARes.call 272 [.ptr (some (bw, 0))], h) ∧ SndF Q Post 272 [.ptr (some (bw, 0))] h none (.tuple []) h2 none]) := by kernel_rfl
theorem byA_slots (Post : Value → World → Prop) (h : AH) (h2 : AH) (bw : Nat) (l : List UInt8) (x : Nat → AV) : slots 19 (tOf (byAR Post h h2 bw l x)) = (.ptr (some (bw, 0)) :: .str l :: gs (byAR Post h h2 bw l x) 2 :: gs (byAR Post h h2 bw l x) 3 :: gs (byAR Post h h2 bw l x) 4 :: gs (byAR Post h h2 bw l x) 5 :: gs (byAR Post h h2 bw l x) 6 :: gs (byAR Post h h2 bw l x) 7 :: gs (byAR Post h h2 bw l x) 8 :: gs (byAR Post h h2 bw l x) 9 :: gs (byAR Post h h2 bw l x) 10 :: gs (byAR Post h h2 bw l x) 11 :: gs (byAR Post h h2 bw l x) 12 :: gs (byAR Post h h2 bw l x) 13 :: gs (byAR Post h h2 bw l x) 14 :: gs (byAR Post h h2 bw l x) 15 :: gs (byAR Post h h2 bw l x) 16 :: gs (byAR Post h h2 bw l x) 17 :: gs (byAR Post h h2 bw l x) 18 :: []) := by kernel_rfl
theorem byA_def (Post : Value → World → Prop) (h : AH) (h2 : AH) (bw : Nat) (l : List UInt8) (x : Nat → AV) : byAR Post h h2 bw l x = E Post [] (byAOv h h2 bw l) (cfst (bodyOf Tryz.f179)) { t := T.ofList (.ptr (some (bw, 0)) :: .str l :: x 2 :: x 3 :: x 4 :: x 5 :: x 6 :: x 7 :: x 8 :: x 9 :: x 10 :: x 11 :: x 12 :: x 13 :: x 14 :: x 15 :: x 16 :: x 17 :: x 18 :: []), n := 19, h := h, s := none } := by kernel_rfl
set_option maxRecDepth 100000 in
theorem byA_C (Post : Value → World → Prop) (h : AH) (h2 : AH) (bw : Nat) (l : List UInt8) (x : Nat → AV) (hp : All [some (ARes.call 272 [.ptr (some (bw, 0))], h) = some (ARes.call 272 [.ptr (some (bw, 0))], h) ∧ SndF Q Post 272 [.ptr (some (bw, 0))] h none (.tuple []) h2 none]) : SndC Q Post (cfst (bodyOf Tryz.f179)) { t := T.ofList (.ptr (some (bw, 0)) :: .str l :: x 2 :: x 3 :: x 4 :: x 5 :: x 6 :: x 7 :: x 8 :: x 9 :: x 10 :: x 11 :: x 12 :: x 13 :: x 14 :: x 15 :: x 16 :: x 17 :: x 18 :: []), n := 19, h := h, s := none } (.normal) { t := T.ofList (.ptr (some (bw, 0)) :: .str l :: gs (byAR Post h h2 bw l x) 2 :: gs (byAR Post h h2 bw l x) 3 :: gs (byAR Post h h2 bw l x) 4 :: gs (byAR Post h h2 bw l x) 5 :: gs (byAR Post h h2 bw l x) 6 :: gs (byAR Post h h2 bw l x) 7 :: gs (byAR Post h h2 bw l x) 8 :: gs (byAR Post h h2 bw l x) 9 :: gs (byAR Post h h2 bw l x) 10 :: gs (byAR Post h h2 bw l x) 11 :: gs (byAR Post h h2 bw l x) 12 :: gs (byAR Post h h2 bw l x) 13 :: gs (byAR Post h h2 bw l x) 14 :: gs (byAR Post h h2 bw l x) 15 :: gs (byAR Post h h2 bw l x) 16 :: gs (byAR Post h h2 bw l x) 17 :: gs (byAR Post h h2 bw l x) 18 :: []), n := 19, h := h2, s := none } :=
  canonC (runE TabsOk.nil (byA_def Post h h2 bw l x) (byA_run Post h h2 bw l x) hp) (byA_slots Post h h2 bw l x)
def byBOv : Nat → Nat → Option Ov
  | _, _ => none
noncomputable def byBR (Post : Value → World → Prop) (h : AH) (bw : Nat) (l : List UInt8) (x : Nat → AV) : Option (Ex × AS × List Prop) := E Post [] byBOv (cfst (csnd (bodyOf Tryz.f179))) { t := T.ofList (.ptr (some (bw, 0)) :: .str l :: x 2 :: x 3 :: x 4 :: x 5 :: x 6 :: x 7 :: x 8 :: x 9 :: x 10 :: x 11 :: x 12 :: x 13 :: x 14 :: x 15 :: x 16 :: x 17 :: x 18 :: []), n := 19, h := h, s := none }
theorem byB_run (Post : Value → World → Prop) (h : AH) (bw : Nat) (l : List UInt8) (x : Nat → AV) : byBR Post h bw l x = some (.normal, { t := tOf (byBR Post h bw l x), n := 19, h := h, s := none },
    []) := by kernel_rfl
theorem byB_slots (Post : Value → World → Prop) (h : AH) (bw : Nat) (l : List UInt8) (x : Nat → AV) : slots 19 (tOf (byBR Post h bw l x)) = (.ptr (some (bw, 0)) :: .str l :: gs (byBR Post h bw l x) 2 :: gs (byBR Post h bw l x) 3 :: .int .i64 (.ofNat 0) :: gs (byBR Post h bw l x) 5 :: gs (byBR Post h bw l x) 6 :: gs (byBR Post h bw l x) 7 :: gs (byBR Post h bw l x) 8 :: gs (byBR Post h bw l x) 9 :: gs (byBR Post h bw l x) 10 :: gs (byBR Post h bw l x) 11 :: gs (byBR Post h bw l x) 12 :: gs (byBR Post h bw l x) 13 :: gs (byBR Post h bw l x) 14 :: gs (byBR Post h bw l x) 15 :: gs (byBR Post h bw l x) 16 :: gs (byBR Post h bw l x) 17 :: gs (byBR Post h bw l x) 18 :: []) := by kernel_rfl
noncomputable abbrev byBody : Code := (cinn (cinn (csnd (csnd (bodyOf Tryz.f179)))))
def byRoundOv (h : AH) (h2 : AH) (bw : Nat) (_l : List UInt8) (j : Nat) (b : UInt8) : Nat → Nat → Option Ov
  | 2, 3 => some (.val (.bool true) h)
  | 4, 3 => some (.val (.int .u8 (.ofNat b.toNat)) h)
  | 4, 4 => some (.val (.int .i64 (.ofNat b.toNat)) h)
  | 4, 5 => some (.call 271 [.ptr (some (bw, 0)), .int .i64 (.ofNat b.toNat), .int .i64 (.ofNat 8)] (.int .i64 (.ofNat 0)) h2)
  | 3, 1 => some (.val (.int .i64 (.ofNat (j + 1))) h2)
  | _, _ => none
noncomputable def byRoundR (Post : Value → World → Prop) (h : AH) (h2 : AH) (bw : Nat) (l : List UInt8) (j : Nat) (b : UInt8) (x : Nat → AV) : Option (Ex × AS × List Prop) := E Post [] (byRoundOv h h2 bw l j b) byBody { t := T.ofList (.ptr (some (bw, 0)) :: .str l :: x 2 :: x 3 :: .int .i64 (.ofNat j) :: x 5 :: x 6 :: x 7 :: x 8 :: x 9 :: x 10 :: x 11 :: x 12 :: x 13 :: x 14 :: x 15 :: x 16 :: x 17 :: x 18 :: []), n := 19, h := h, s := none }
theorem byRound_run (Post : Value → World → Prop) (h : AH) (h2 : AH) (bw : Nat) (l : List UInt8) (j : Nat) (b : UInt8) (x : Nat → AV) : byRoundR Post h h2 bw l j b x = some (.normal, { t := tOf (byRoundR Post h h2 bw l j b x), n := 19, h := h2, s := none },
    [retV h (aBin Q .lss 3 false (.int .i64 (.ofNat j)) (.int .i64 (.ofNat l.length))) = some (.val (.bool true), h),
     retV h (aIndex Q 9 (.str l) (.int .i64 (.ofNat j))) = some (.val (.int .u8 (.ofNat b.toNat)), h),
     aConvert Q h 5 3 (.int .u8 (.ofNat b.toNat)) = some (.val (.int .i64 (.ofNat b.toNat)), h),
     some (ARes.call 271 [.ptr (some (bw, 0)), .int .i64 (.ofNat b.toNat), .int .i64 (.ofNat 8)], h) = some (ARes.call 271 [.ptr (some (bw, 0)), .int .i64 (.ofNat b.toNat), .int .i64 (.ofNat 8)], h) ∧ SndF Q Post 271 [.ptr (some (bw, 0)), .int .i64 (.ofNat b.toNat), .int .i64 (.ofNat 8)] h none (.int .i64 (.ofNat 0)) h2 none,
     retV h2 (aBin Q .add 3 true (.int .i64 (.ofNat j)) (.int .i64 (.ofNat 1))) = some (.val (.int .i64 (.ofNat (j + 1))), h2)]) := by kernel_rfl
theorem byRound_slots (Post : Value → World → Prop) (h : AH) (h2 : AH) (bw : Nat) (l : List UInt8) (j : Nat) (b : UInt8) (x : Nat → AV) : slots 19 (tOf (byRoundR Post h h2 bw l j b x)) = (.ptr (some (bw, 0)) :: .str l :: gs (byRoundR Post h h2 bw l j b x) 2 :: gs (byRoundR Post h h2 bw l j b x) 3 :: .int .i64 (.ofNat (j + 1)) :: gs (byRoundR Post h h2 bw l j b x) 5 :: gs (byRoundR Post h h2 bw l j b x) 6 :: gs (byRoundR Post h h2 bw l j b x) 7 :: gs (byRoundR Post h h2 bw l j b x) 8 :: gs (byRoundR Post h h2 bw l j b x) 9 :: gs (byRoundR Post h h2 bw l j b x) 10 :: gs (byRoundR Post h h2 bw l j b x) 11 :: gs (byRoundR Post h h2 bw l j b x) 12 :: gs (byRoundR Post h h2 bw l j b x) 13 :: gs (byRoundR Post h h2 bw l j b x) 14 :: gs (byRoundR Post h h2 bw l j b x) 15 :: gs (byRoundR Post h h2 bw l j b x) 16 :: gs (byRoundR Post h h2 bw l j b x) 17 :: gs (byRoundR Post h h2 bw l j b x) 18 :: []) := by kernel_rfl
theorem byRound_def (Post : Value → World → Prop) (h : AH) (h2 : AH) (bw : Nat) (l : List UInt8) (j : Nat) (b : UInt8) (x : Nat → AV) : byRoundR Post h h2 bw l j b x = E Post [] (byRoundOv h h2 bw l j b) byBody { t := T.ofList (.ptr (some (bw, 0)) :: .str l :: x 2 :: x 3 :: .int .i64 (.ofNat j) :: x 5 :: x 6 :: x 7 :: x 8 :: x 9 :: x 10 :: x 11 :: x 12 :: x 13 :: x 14 :: x 15 :: x 16 :: x 17 :: x 18 :: []), n := 19, h := h, s := none } := by kernel_rfl
set_option maxRecDepth 100000 in
theorem byRound_C (Post : Value → World → Prop) (h : AH) (h2 : AH) (bw : Nat) (l : List UInt8) (j : Nat) (b : UInt8) (x : Nat → AV) (hp : All [retV h (aBin Q .lss 3 false (.int .i64 (.ofNat j)) (.int .i64 (.ofNat l.length))) = some (.val (.bool true), h),
     retV h (aIndex Q 9 (.str l) (.int .i64 (.ofNat j))) = some (.val (.int .u8 (.ofNat b.toNat)), h),
     aConvert Q h 5 3 (.int .u8 (.ofNat b.toNat)) = some (.val (.int .i64 (.ofNat b.toNat)), h),
     some (ARes.call 271 [.ptr (some (bw, 0)), .int .i64 (.ofNat b.toNat), .int .i64 (.ofNat 8)], h) = some (ARes.call 271 [.ptr (some (bw, 0)), .int .i64 (.ofNat b.toNat), .int .i64 (.ofNat 8)], h) ∧ SndF Q Post 271 [.ptr (some (bw, 0)), .int .i64 (.ofNat b.toNat), .int .i64 (.ofNat 8)] h none (.int .i64 (.ofNat 0)) h2 none,
     retV h2 (aBin Q .add 3 true (.int .i64 (.ofNat j)) (.int .i64 (.ofNat 1))) = some (.val (.int .i64 (.ofNat (j + 1))), h2)]) : SndC Q Post byBody { t := T.ofList (.ptr (some (bw, 0)) :: .str l :: x 2 :: x 3 :: .int .i64 (.ofNat j) :: x 5 :: x 6 :: x 7 :: x 8 :: x 9 :: x 10 :: x 11 :: x 12 :: x 13 :: x 14 :: x 15 :: x 16 :: x 17 :: x 18 :: []), n := 19, h := h, s := none } (.normal) { t := T.ofList (.ptr (some (bw, 0)) :: .str l :: gs (byRoundR Post h h2 bw l j b x) 2 :: gs (byRoundR Post h h2 bw l j b x) 3 :: .int .i64 (.ofNat (j + 1)) :: gs (byRoundR Post h h2 bw l j b x) 5 :: gs (byRoundR Post h h2 bw l j b x) 6 :: gs (byRoundR Post h h2 bw l j b x) 7 :: gs (byRoundR Post h h2 bw l j b x) 8 :: gs (byRoundR Post h h2 bw l j b x) 9 :: gs (byRoundR Post h h2 bw l j b x) 10 :: gs (byRoundR Post h h2 bw l j b x) 11 :: gs (byRoundR Post h h2 bw l j b x) 12 :: gs (byRoundR Post h h2 bw l j b x) 13 :: gs (byRoundR Post h h2 bw l j b x) 14 :: gs (byRoundR Post h h2 bw l j b x) 15 :: gs (byRoundR Post h h2 bw l j b x) 16 :: gs (byRoundR Post h h2 bw l j b x) 17 :: gs (byRoundR Post h h2 bw l j b x) 18 :: []), n := 19, h := h2, s := none } :=
  canonC (runE TabsOk.nil (byRound_def Post h h2 bw l j b x) (byRound_run Post h h2 bw l j b x) hp) (byRound_slots Post h h2 bw l j b x)
def byLastOv (h : AH) (_bw : Nat) (_l : List UInt8) (_j : Nat) : Nat → Nat → Option Ov
  | 2, 3 => some (.val (.bool false) h)
  | _, _ => none
noncomputable def byLastR (Post : Value → World → Prop) (h : AH) (bw : Nat) (l : List UInt8) (j : Nat) (x : Nat → AV) : Option (Ex × AS × List Prop) := E Post [] (byLastOv h bw l j) byBody { t := T.ofList (.ptr (some (bw, 0)) :: .str l :: x 2 :: x 3 :: .int .i64 (.ofNat j) :: x 5 :: x 6 :: x 7 :: x 8 :: x 9 :: x 10 :: x 11 :: x 12 :: x 13 :: x 14 :: x 15 :: x 16 :: x 17 :: x 18 :: []), n := 19, h := h, s := none }
theorem byLast_run (Post : Value → World → Prop) (h : AH) (bw : Nat) (l : List UInt8) (j : Nat) (x : Nat → AV) : byLastR Post h bw l j x = some (.exit 0, { t := tOf (byLastR Post h bw l j x), n := 19, h := h, s := none },
    [retV h (aBin Q .lss 3 false (.int .i64 (.ofNat j)) (.int .i64 (.ofNat l.length))) = some (.val (.bool false), h)]) := by kernel_rfl
theorem byLast_slots (Post : Value → World → Prop) (h : AH) (bw : Nat) (l : List UInt8) (j : Nat) (x : Nat → AV) : slots 19 (tOf (byLastR Post h bw l j x)) = (.ptr (some (bw, 0)) :: .str l :: gs (byLastR Post h bw l j x) 2 :: gs (byLastR Post h bw l j x) 3 :: .int .i64 (.ofNat j) :: gs (byLastR Post h bw l j x) 5 :: gs (byLastR Post h bw l j x) 6 :: gs (byLastR Post h bw l j x) 7 :: gs (byLastR Post h bw l j x) 8 :: gs (byLastR Post h bw l j x) 9 :: gs (byLastR Post h bw l j x) 10 :: gs (byLastR Post h bw l j x) 11 :: gs (byLastR Post h bw l j x) 12 :: gs (byLastR Post h bw l j x) 13 :: gs (byLastR Post h bw l j x) 14 :: gs (byLastR Post h bw l j x) 15 :: gs (byLastR Post h bw l j x) 16 :: gs (byLastR Post h bw l j x) 17 :: gs (byLastR Post h bw l j x) 18 :: []) := by kernel_rfl
theorem byLast_def (Post : Value → World → Prop) (h : AH) (bw : Nat) (l : List UInt8) (j : Nat) (x : Nat → AV) : byLastR Post h bw l j x = E Post [] (byLastOv h bw l j) byBody { t := T.ofList (.ptr (some (bw, 0)) :: .str l :: x 2 :: x 3 :: .int .i64 (.ofNat j) :: x 5 :: x 6 :: x 7 :: x 8 :: x 9 :: x 10 :: x 11 :: x 12 :: x 13 :: x 14 :: x 15 :: x 16 :: x 17 :: x 18 :: []), n := 19, h := h, s := none } := by kernel_rfl
set_option maxRecDepth 100000 in
theorem byLast_C (Post : Value → World → Prop) (h : AH) (bw : Nat) (l : List UInt8) (j : Nat) (x : Nat → AV) (hp : All [retV h (aBin Q .lss 3 false (.int .i64 (.ofNat j)) (.int .i64 (.ofNat l.length))) = some (.val (.bool false), h)]) : SndC Q Post byBody { t := T.ofList (.ptr (some (bw, 0)) :: .str l :: x 2 :: x 3 :: .int .i64 (.ofNat j) :: x 5 :: x 6 :: x 7 :: x 8 :: x 9 :: x 10 :: x 11 :: x 12 :: x 13 :: x 14 :: x 15 :: x 16 :: x 17 :: x 18 :: []), n := 19, h := h, s := none } (.exit 0) { t := T.ofList (.ptr (some (bw, 0)) :: .str l :: gs (byLastR Post h bw l j x) 2 :: gs (byLastR Post h bw l j x) 3 :: .int .i64 (.ofNat j) :: gs (byLastR Post h bw l j x) 5 :: gs (byLastR Post h bw l j x) 6 :: gs (byLastR Post h bw l j x) 7 :: gs (byLastR Post h bw l j x) 8 :: gs (byLastR Post h bw l j x) 9 :: gs (byLastR Post h bw l j x) 10 :: gs (byLastR Post h bw l j x) 11 :: gs (byLastR Post h bw l j x) 12 :: gs (byLastR Post h bw l j x) 13 :: gs (byLastR Post h bw l j x) 14 :: gs (byLastR Post h bw l j x) 15 :: gs (byLastR Post h bw l j x) 16 :: gs (byLastR Post h bw l j x) 17 :: gs (byLastR Post h bw l j x) 18 :: []), n := 19, h := h, s := none } :=
  canonC (runE TabsOk.nil (byLast_def Post h bw l j x) (byLast_run Post h bw l j x) hp) (byLast_slots Post h bw l j x)

noncomputable abbrev bySt (h : AH) (bw : Nat) (l : List UInt8) (j : Nat) (x : Nat → AV) : AS := { t := T.ofList (.ptr (some (bw, 0)) :: .str l :: x 2 :: x 3 :: .int .i64 (.ofNat j) :: x 5 :: x 6 :: x 7 :: x 8 :: x 9 :: x 10 :: x 11 :: x 12 :: x 13 :: x 14 :: x 15 :: x 16 :: x 17 :: x 18 :: []), n := 19, h := h, s := none }
def bytesBits : List UInt8 → List Nat
  | [] => []
  | b :: l => bitsFrom b.toNat 0 8 ++ bytesBits l
theorem conv_5_3 (h : AH) (b : UInt8) : aConvert Q h 5 3 (.int .u8 (.ofNat b.toNat)) = some (.val (.int .i64 (.ofNat b.toNat)), h) := by
  have e : aConvert Q h 5 3 (.int .u8 (.ofNat b.toNat)) = some (.val (.int .i64 (IntKind.i64.wrap (.ofNat b.toNat))), h) := by kernel_rfl
  rw [e, wrap_lim .i64 _ (show b.toNat < 9223372036854775808 by have := b.toNat_lt; omega)]
set_option maxRecDepth 100000 in
theorem by_loop (Post : Value → World → Prop) {bw : Nat} {l : List UInt8} (hl : l.length < 2 ^ 30) : ∀ (rest : List UInt8) (j : Nat) (h : AH) (base : Option Nat) (L : List Nat) (x : Nat → AV), l.drop j = rest → j ≤ l.length → WrAt h bw base L → L.length + 8 * rest.length < 2 ^ 38 →
    ∃ h' base' x', SndL Q Post byBody (bySt h bw l j x) (.exit 0) (bySt h' bw l l.length x') ∧ WrAt h' bw base' (L ++ bytesBits rest) ∧ Grown h h' bw base base'
  | [], j, h, base, L, x, hr, hj, hw, hL => by
    have hj : j = l.length := by
      have : l.length ≤ j := by simpa using hr
      omega
    subst hj
    have hd := SndC.run TabsOk.nil (byLast_run Post h bw l l.length x) (by refine ⟨retV_of (by rw [aBin_lss, decide_eq_false (by omega)]), trivial⟩)
    exact ⟨h, base, _, .done (canonC hd (byLast_slots Post h bw l l.length x)) (by simp), by simpa [bytesBits] using hw, .refl h bw base⟩
  | b :: rest, j, h, base, L, x, hr, hj, hw, hL => by
    have hb : l[j]? = some b := by
      have := congrArg (fun m : List UInt8 => m[0]?) hr
      simpa using this
    have hjl : j < l.length := (List.getElem?_eq_some_iff.1 hb).1
    have hr' : l.drop (j + 1) = rest := by
      have := congrArg List.tail hr
      simpa using this
    simp only [List.length_cons] at hL
    obtain ⟨h2, base2, q1, q2, q3⟩ := put_grow Post (bw := bw) (v := b.toNat) (n := 8) (by decide) (by have := b.toNat_lt; omega) hw (by omega) (by decide)
    have hd := SndC.run TabsOk.nil (byRound_run Post h h2 bw l j b x) (by refine ⟨retV_of (by rw [aBin_lss, decide_eq_true hjl]), retV_of (index9 hb), conv_5_3 h b, ⟨rfl, q1⟩, retV_of (aBin_add (show j + 1 < 9223372036854775808 by omega)), trivial⟩)
    obtain ⟨h', base', x', r1, r2, r3⟩ := by_loop Post hl rest (j + 1) h2 base2 (L ++ bitsFrom b.toNat 0 8) (gs (byRoundR Post h h2 bw l j b x)) hr' (by omega) q2 (by simp [bitsFrom_length]; omega)
    refine ⟨h', base', x', .step (canonC hd (byRound_slots Post h h2 bw l j b x)) r1, ?_, q3.trans r3⟩
    rw [List.append_assoc] at r2
    exact r2
set_option maxRecDepth 100000 in
theorem bytes_snd (Post : Value → World → Prop) {h : AH} {bw : Nat} {base : Option Nat} {L : List Nat} {l : List UInt8} (hw : WrAt h bw base L) (h8 : L.length % 8 = 0) (hl : l.length < 2 ^ 30) (hL : L.length < 2 ^ 30) :
    ∃ h' base', SndF Q Post 179 [.ptr (some (bw, 0)), .str l] h none (.tuple []) h' none ∧ WrAt h' bw base' (L ++ bytesBits l) ∧ Grown h h' bw base base' := by
  obtain ⟨h1, base1, a1, a2, a3⟩ := align_snd Post hw (by omega)
  rw [h8] at a2
  simp only [Nat.sub_zero, Nat.mod_self, List.replicate_zero, List.append_nil] at a2
  let x0 : Nat → AV := fun _ => .tuple []
  have hA := canonC (SndC.run TabsOk.nil (byA_run Post h h1 bw l x0) ⟨⟨rfl, a1⟩, trivial⟩) (byA_slots Post h h1 bw l x0)
  let x1 := gs (byAR Post h h1 bw l x0)
  have hB := canonC (SndC.run TabsOk.nil (byB_run Post h1 bw l x1) trivial) (byB_slots Post h1 bw l x1)
  let x2 := gs (byBR Post h1 bw l x1)
  obtain ⟨h', base', x', r1, r2, r3⟩ := by_loop Post (bw := bw) hl l 0 h1 base1 L x2 rfl (by omega) a2 (by omega)
  refine ⟨h', base', ?_, r2, a3.trans r3⟩
  have body : SndC Q Post (bodyOf Tryz.f179) { t := T.ofList [.ptr (some (bw, 0)), .str l], n := 19, h := h, s := none } .normal _ :=
    enterC (.seq hA (.seq hB (.blockExit (.loop r1)))) (by rfl)
  exact SndF.of (by kernel_rfl) Tryz.func179 rfl body (.inr rfl) (by rfl)
end
end Go.Cx

/-
  THE DOCUMENT's WRITER OF BITS: its text.
-/
namespace Go.Cx
noncomputable section
open Go Go.Proofs Go.Conc

theorem row_base {h : AH} {sl : AV} {L : List Nat} {b : Nat} (hr : Row h sl L) (hb : rowBase sl = some b) : sl = .slice (some (b, 0)) L.length L.length true ∧ b < h.n ∧ ∃ c, h.t.get b = some (.cells 5 L.length c true false) ∧ c.gets 0 L.length = some (L.map byteV) := by
  rcases hr with ⟨_, rfl⟩ | ⟨b', c, rfl, h1, h2, h3⟩
  · cases hb
  · cases hb; exact ⟨rfl, h3, c, h1, h2⟩
theorem idx67 {b n i : Nat} (hi : i < n) : aIndexAddr Q 67 (.slice (some (b, 0)) n n true) (.int .i64 (.ofNat i)) = some (.ptr (some (b, i))) := by
  have e : aIndexAddr Q 67 (.slice (some (b, 0)) n n true) (.int .i64 (.ofNat i)) = if 0 ≤ (Int.ofNat i) ∧ (Int.ofNat i) < (n : Int) then some (.ptr (some (b, 0 + (Int.ofNat i).toNat * 1))) else none := by kernel_rfl
  rw [e, if_pos ⟨Int.natCast_nonneg i, by show (i : Int) < (n : Int); omega⟩]
  simp
theorem load5 {h : AH} {b i n : Nat} {e : TypeId} {c : T AV} {op ro : Bool} {L : List Nat} (hb : h.t.get b = some (.cells e n c op ro)) (hc : c.gets 0 n = some (L.map byteV)) (hi : i < n) : aLoad Q h 5 b i = some (byteV (L.getD i 0)) := by
  have e1 : aIsAgg Q 5 = false := by kernel_rfl
  have e2 : aKnown Q 5 = true := by kernel_rfl
  obtain ⟨hl, hg⟩ := T.gets_some hc
  have h1 := hg i hi
  rw [Nat.zero_add] at h1
  have hlen : i < L.length := by simp at hl; omega
  rw [List.getElem?_map, List.getElem?_eq_getElem hlen] at h1
  simp [aLoad, hb, e1, e2, hi, h1, hlen]
theorem gets_set {c : T AV} {n : Nat} {L : List Nat} (hc : c.gets 0 n = some (L.map byteV)) {i : Nat} (_hi : i < n) (v : Nat) : (c.set i (byteV v)).gets 0 n = some ((L.set i v).map byteV) := by
  obtain ⟨hl, hg⟩ := T.gets_some hc
  have hlen : L.length = n := by simpa using hl
  have key : ∀ (m o : Nat), o + m = n → (c.set i (byteV v)).gets o m = some (((L.set i v).map byteV).drop o) := by
    intro m
    induction m with
    | zero =>
      intro o ho
      have : ((L.set i v).map byteV).drop o = [] := List.drop_eq_nil_of_le (by simp; omega)
      rw [this]; rfl
    | succ m ih =>
      intro o ho
      have hol : o < ((L.set i v).map byteV).length := by simp; omega
      have hx : (c.set i (byteV v)).get o = some (((L.set i v).map byteV)[o]) := by
        rw [T.get_set]
        by_cases e : i = o
        · subst e
          simp
        · rw [if_neg e]
          have := hg o (by omega)
          rw [Nat.zero_add, List.getElem?_eq_getElem (by simp; omega)] at this
          rw [this]
          simp [e]
      simp only [T.gets, hx, ih (o + 1) (by omega), Option.map_some]
      rw [List.drop_eq_getElem_cons hol]
  exact key n 0 (by omega)
theorem store5 {h : AH} {b i n v : Nat} {c : T AV} {L : List Nat} (hb : h.t.get b = some (.cells 5 n c true false)) (_hc : c.gets 0 n = some (L.map byteV)) (hi : i < n) :
    aStore Q h 5 b i (byteV v) = some { h with t := h.t.set b (.cells 5 n (c.set i (byteV v)) true false) } := by
  have e1 : aSize Q 5 = some 1 := by kernel_rfl
  have e2 : i + 1 ≤ n := by omega
  simp [aStore, e1, aPut, hb, AV.cells, byteV, AV.scalar, T.puts, e2]
theorem conv_67_9 {h : AH} {sl : AV} {L : List Nat} (hr : Row h sl L) : aConvert Q h 67 9 sl = some (.val (.str (L.map UInt8.ofNat)), h) := by
  have e1 : Q.underlying 9 = some .string := by kernel_rfl
  have hb : ∀ l : List Nat, aBytesOf (l.map byteV) = some (l.map UInt8.ofNat) := by
    intro l
    induction l with
    | nil => rfl
    | cons a l ih => simp only [List.map_cons, byteV, aBytesOf] at ih ⊢; rw [ih]; rfl
  rcases hr with ⟨rfl, rfl⟩ | ⟨b, c, rfl, h1, h2, h3⟩
  · simp only [aConvert, und67, e1, und5]; rfl
  · simp only [aConvert, und67, e1, und5, aCellsAt, h1, Nat.zero_add, Nat.le_refl, if_true, h2, hb, Option.map_some]
theorem WrAt.mono {h h' : AH} {bw : Nat} {base : Option Nat} {L : List Nat} (hw : WrAt h bw base L) (hn : h.n ≤ h'.n) (h1 : h'.t.get bw = h.t.get bw) (h2 : ∀ b, base = some b → h'.t.get b = h.t.get b) : WrAt h' bw base L := by
  obtain ⟨c, sl, w1, w2, w3, w4, w5, w6⟩ := hw
  exact ⟨c, sl, h1.trans w1, w2, w3.mono hn (fun b hb => h2 b (w4 ▸ hb)), w4, w5, by omega⟩
/-- One bit more of the text. -/
def textStep (O : List Nat) (i bit : Nat) : List Nat := (if i % 8 = 0 then O ++ [0] else O).set (i / 8) ((if i % 8 = 0 then O ++ [0] else O).getD (i / 8) 0 + bit * 2 ^ (i % 8))
def textFold : Nat → List Nat → List Nat → List Nat
  | _, O, [] => O
  | i, O, b :: l => textFold (i + 1) (textStep O i b) l
def txAOv : Nat → Nat → Option Ov
  | _, _ => none
noncomputable def txAR (Post : Value → World → Prop) (h : AH) (bw : Nat) (x : Nat → AV) : Option (Ex × AS × List Prop) := E Post [] txAOv (cfst (bodyOf Tryz.f184)) { t := T.ofList (.ptr (some (bw, 0)) :: x 1 :: x 2 :: x 3 :: x 4 :: x 5 :: x 6 :: x 7 :: x 8 :: x 9 :: x 10 :: x 11 :: x 12 :: x 13 :: x 14 :: x 15 :: x 16 :: x 17 :: x 18 :: x 19 :: x 20 :: x 21 :: x 22 :: x 23 :: x 24 :: x 25 :: x 26 :: x 27 :: x 28 :: x 29 :: x 30 :: x 31 :: x 32 :: x 33 :: x 34 :: x 35 :: x 36 :: x 37 :: x 38 :: x 39 :: x 40 :: x 41 :: x 42 :: []), n := 43, h := h, s := none }
theorem txA_run (Post : Value → World → Prop) (h : AH) (bw : Nat) (x : Nat → AV) : txAR Post h bw x = some (.normal, { t := tOf (txAR Post h bw x), n := 43, h := h, s := none },
    []) := by kernel_rfl
theorem txA_slots (Post : Value → World → Prop) (h : AH) (bw : Nat) (x : Nat → AV) : slots 43 (tOf (txAR Post h bw x)) = (.ptr (some (bw, 0)) :: gs (txAR Post h bw x) 1 :: gs (txAR Post h bw x) 2 :: gs (txAR Post h bw x) 3 :: gs (txAR Post h bw x) 4 :: gs (txAR Post h bw x) 5 :: gs (txAR Post h bw x) 6 :: gs (txAR Post h bw x) 7 :: gs (txAR Post h bw x) 8 :: gs (txAR Post h bw x) 9 :: gs (txAR Post h bw x) 10 :: gs (txAR Post h bw x) 11 :: gs (txAR Post h bw x) 12 :: gs (txAR Post h bw x) 13 :: gs (txAR Post h bw x) 14 :: gs (txAR Post h bw x) 15 :: gs (txAR Post h bw x) 16 :: gs (txAR Post h bw x) 17 :: gs (txAR Post h bw x) 18 :: gs (txAR Post h bw x) 19 :: gs (txAR Post h bw x) 20 :: gs (txAR Post h bw x) 21 :: gs (txAR Post h bw x) 22 :: gs (txAR Post h bw x) 23 :: gs (txAR Post h bw x) 24 :: gs (txAR Post h bw x) 25 :: gs (txAR Post h bw x) 26 :: gs (txAR Post h bw x) 27 :: gs (txAR Post h bw x) 28 :: gs (txAR Post h bw x) 29 :: gs (txAR Post h bw x) 30 :: gs (txAR Post h bw x) 31 :: gs (txAR Post h bw x) 32 :: gs (txAR Post h bw x) 33 :: gs (txAR Post h bw x) 34 :: gs (txAR Post h bw x) 35 :: gs (txAR Post h bw x) 36 :: gs (txAR Post h bw x) 37 :: gs (txAR Post h bw x) 38 :: gs (txAR Post h bw x) 39 :: gs (txAR Post h bw x) 40 :: gs (txAR Post h bw x) 41 :: gs (txAR Post h bw x) 42 :: []) := by kernel_rfl
def txBOv : Nat → Nat → Option Ov
  | _, _ => none
noncomputable def txBR (Post : Value → World → Prop) (h : AH) (bw : Nat) (x : Nat → AV) : Option (Ex × AS × List Prop) := E Post [] txBOv (cfst (csnd (bodyOf Tryz.f184))) { t := T.ofList (.ptr (some (bw, 0)) :: x 1 :: x 2 :: x 3 :: x 4 :: x 5 :: x 6 :: x 7 :: x 8 :: x 9 :: x 10 :: x 11 :: x 12 :: x 13 :: x 14 :: x 15 :: x 16 :: x 17 :: x 18 :: x 19 :: x 20 :: x 21 :: x 22 :: x 23 :: x 24 :: x 25 :: x 26 :: x 27 :: x 28 :: x 29 :: x 30 :: x 31 :: x 32 :: x 33 :: x 34 :: x 35 :: x 36 :: x 37 :: x 38 :: x 39 :: x 40 :: x 41 :: x 42 :: []), n := 43, h := h, s := none }
theorem txB_run (Post : Value → World → Prop) (h : AH) (bw : Nat) (x : Nat → AV) : txBR Post h bw x = some (.normal, { t := tOf (txBR Post h bw x), n := 43, h := h, s := none },
    []) := by kernel_rfl
theorem txB_slots (Post : Value → World → Prop) (h : AH) (bw : Nat) (x : Nat → AV) : slots 43 (tOf (txBR Post h bw x)) = (.ptr (some (bw, 0)) :: gs (txBR Post h bw x) 1 :: gs (txBR Post h bw x) 2 :: .slice none 0 0 false :: gs (txBR Post h bw x) 4 :: gs (txBR Post h bw x) 5 :: gs (txBR Post h bw x) 6 :: gs (txBR Post h bw x) 7 :: gs (txBR Post h bw x) 8 :: gs (txBR Post h bw x) 9 :: gs (txBR Post h bw x) 10 :: gs (txBR Post h bw x) 11 :: gs (txBR Post h bw x) 12 :: gs (txBR Post h bw x) 13 :: gs (txBR Post h bw x) 14 :: gs (txBR Post h bw x) 15 :: gs (txBR Post h bw x) 16 :: gs (txBR Post h bw x) 17 :: gs (txBR Post h bw x) 18 :: gs (txBR Post h bw x) 19 :: gs (txBR Post h bw x) 20 :: gs (txBR Post h bw x) 21 :: gs (txBR Post h bw x) 22 :: gs (txBR Post h bw x) 23 :: gs (txBR Post h bw x) 24 :: gs (txBR Post h bw x) 25 :: gs (txBR Post h bw x) 26 :: gs (txBR Post h bw x) 27 :: gs (txBR Post h bw x) 28 :: gs (txBR Post h bw x) 29 :: gs (txBR Post h bw x) 30 :: gs (txBR Post h bw x) 31 :: gs (txBR Post h bw x) 32 :: gs (txBR Post h bw x) 33 :: gs (txBR Post h bw x) 34 :: gs (txBR Post h bw x) 35 :: gs (txBR Post h bw x) 36 :: gs (txBR Post h bw x) 37 :: gs (txBR Post h bw x) 38 :: gs (txBR Post h bw x) 39 :: gs (txBR Post h bw x) 40 :: gs (txBR Post h bw x) 41 :: gs (txBR Post h bw x) 42 :: []) := by kernel_rfl
def txCOv : Nat → Nat → Option Ov
  | _, _ => none
noncomputable def txCR (Post : Value → World → Prop) (h : AH) (bw : Nat) (o : AV) (x : Nat → AV) : Option (Ex × AS × List Prop) := E Post [] txCOv (cfst (cfst (csnd (csnd (bodyOf Tryz.f184))))) { t := T.ofList (.ptr (some (bw, 0)) :: x 1 :: x 2 :: o :: x 4 :: x 5 :: x 6 :: x 7 :: x 8 :: x 9 :: x 10 :: x 11 :: x 12 :: x 13 :: x 14 :: x 15 :: x 16 :: x 17 :: x 18 :: x 19 :: x 20 :: x 21 :: x 22 :: x 23 :: x 24 :: x 25 :: x 26 :: x 27 :: x 28 :: x 29 :: x 30 :: x 31 :: x 32 :: x 33 :: x 34 :: x 35 :: x 36 :: x 37 :: x 38 :: x 39 :: x 40 :: x 41 :: x 42 :: []), n := 43, h := h, s := none }
theorem txC_run (Post : Value → World → Prop) (h : AH) (bw : Nat) (o : AV) (x : Nat → AV) : txCR Post h bw o x = some (.normal, { t := tOf (txCR Post h bw o x), n := 43, h := h, s := none },
    []) := by kernel_rfl
theorem txC_slots (Post : Value → World → Prop) (h : AH) (bw : Nat) (o : AV) (x : Nat → AV) : slots 43 (tOf (txCR Post h bw o x)) = (.ptr (some (bw, 0)) :: gs (txCR Post h bw o x) 1 :: gs (txCR Post h bw o x) 2 :: o :: .int .i64 (.ofNat 0) :: gs (txCR Post h bw o x) 5 :: gs (txCR Post h bw o x) 6 :: gs (txCR Post h bw o x) 7 :: gs (txCR Post h bw o x) 8 :: gs (txCR Post h bw o x) 9 :: gs (txCR Post h bw o x) 10 :: gs (txCR Post h bw o x) 11 :: gs (txCR Post h bw o x) 12 :: gs (txCR Post h bw o x) 13 :: gs (txCR Post h bw o x) 14 :: gs (txCR Post h bw o x) 15 :: gs (txCR Post h bw o x) 16 :: gs (txCR Post h bw o x) 17 :: gs (txCR Post h bw o x) 18 :: gs (txCR Post h bw o x) 19 :: gs (txCR Post h bw o x) 20 :: gs (txCR Post h bw o x) 21 :: gs (txCR Post h bw o x) 22 :: gs (txCR Post h bw o x) 23 :: gs (txCR Post h bw o x) 24 :: gs (txCR Post h bw o x) 25 :: gs (txCR Post h bw o x) 26 :: gs (txCR Post h bw o x) 27 :: gs (txCR Post h bw o x) 28 :: gs (txCR Post h bw o x) 29 :: gs (txCR Post h bw o x) 30 :: gs (txCR Post h bw o x) 31 :: gs (txCR Post h bw o x) 32 :: gs (txCR Post h bw o x) 33 :: gs (txCR Post h bw o x) 34 :: gs (txCR Post h bw o x) 35 :: gs (txCR Post h bw o x) 36 :: gs (txCR Post h bw o x) 37 :: gs (txCR Post h bw o x) 38 :: gs (txCR Post h bw o x) 39 :: gs (txCR Post h bw o x) 40 :: gs (txCR Post h bw o x) 41 :: gs (txCR Post h bw o x) 42 :: []) := by kernel_rfl
noncomputable abbrev txBody : Code := (cinn (cinn (csnd (cfst (csnd (csnd (bodyOf Tryz.f184)))))))
def txRoundOv (h : AH) (h3 : AH) (_bw : Nat) (rb : Nat) (n : Nat) (i : Nat) (ob : Nat) (_m : Nat) (a : Nat) (d : Nat) : Nat → Nat → Option Ov
  | 3, 4 => some (.val (.slice (some (rb, 0)) n n true) h)
  | 3, 5 => some (.val (.int .i64 (.ofNat n)) h)
  | 3, 6 => some (.val (.bool true) h)
  | 5, 1 => some (.val (.int .i64 (.ofNat (i % 8))) h)
  | 5, 2 => some (.val (.bool false) h)
  | 7, 2 => some (.val (.int .i64 (.ofNat (i / 8))) h)
  | 7, 5 => some (.val (.int .i64 (.ofNat (i / 8))) h)
  | 7, 6 => some (.val (.ptr (some (ob, i / 8))) h)
  | 7, 7 => some (.val (byteV a) h)
  | 7, 11 => some (.val (.slice (some (rb, 0)) n n true) h)
  | 7, 13 => some (.val (.ptr (some (rb, i))) h)
  | 7, 14 => some (.val (byteV d) h)
  | 7, 16 => some (.val (.int .i64 (.ofNat (i % 8))) h)
  | 7, 17 => some (.val (.int .u64 (.ofNat (i % 8))) h)
  | 7, 18 => some (.val (byteV (d * 2 ^ (i % 8))) h)
  | 7, 19 => some (.val (byteV (a + d * 2 ^ (i % 8))) h)
  | 7, 20 => some (.val (.ptr (some (ob, i / 8))) h)
  | 7, 21 => some (.skip h3)
  | 4, 1 => some (.val (.int .i64 (.ofNat (i + 1))) h3)
  | _, _ => none
noncomputable def txRoundR (Post : Value → World → Prop) (h : AH) (h3 : AH) (bw : Nat) (rb : Nat) (n : Nat) (i : Nat) (ob : Nat) (m : Nat) (a : Nat) (d : Nat) (x : Nat → AV) : Option (Ex × AS × List Prop) := E Post [] (txRoundOv h h3 bw rb n i ob m a d) txBody { t := T.ofList (.ptr (some (bw, 0)) :: x 1 :: x 2 :: .slice (some (ob, 0)) m m true :: .int .i64 (.ofNat i) :: x 5 :: x 6 :: x 7 :: x 8 :: x 9 :: x 10 :: x 11 :: x 12 :: x 13 :: x 14 :: x 15 :: x 16 :: x 17 :: x 18 :: x 19 :: x 20 :: x 21 :: x 22 :: x 23 :: x 24 :: x 25 :: x 26 :: x 27 :: x 28 :: x 29 :: x 30 :: x 31 :: x 32 :: x 33 :: x 34 :: x 35 :: x 36 :: x 37 :: x 38 :: x 39 :: x 40 :: x 41 :: x 42 :: []), n := 43, h := h, s := none }
theorem txRound_run (Post : Value → World → Prop) (h : AH) (h3 : AH) (bw : Nat) (rb : Nat) (n : Nat) (i : Nat) (ob : Nat) (m : Nat) (a : Nat) (d : Nat) (x : Nat → AV) : txRoundR Post h h3 bw rb n i ob m a d x = some (.normal, { t := tOf (txRoundR Post h h3 bw rb n i ob m a d x), n := 43, h := h3, s := none },
    [retV h (aLoad Q h 67 bw 0) = some (.val (.slice (some (rb, 0)) n n true), h),
     retV h (aLen Q 67 h (.slice (some (rb, 0)) n n true)) = some (.val (.int .i64 (.ofNat n)), h),
     retV h (aBin Q .lss 3 false (.int .i64 (.ofNat i)) (.int .i64 (.ofNat n))) = some (.val (.bool true), h),
     retV h (aBin Q .rem 3 true (.int .i64 (.ofNat i)) (.int .i64 (.ofNat 8))) = some (.val (.int .i64 (.ofNat (i % 8))), h),
     retV h (aBin Q .eql 3 true (.int .i64 (.ofNat (i % 8))) (.int .i64 (.ofNat 0))) = some (.val (.bool false), h),
     retV h (aBin Q .quo 3 true (.int .i64 (.ofNat i)) (.int .i64 (.ofNat 8))) = some (.val (.int .i64 (.ofNat (i / 8))), h),
     retV h (aBin Q .quo 3 true (.int .i64 (.ofNat i)) (.int .i64 (.ofNat 8))) = some (.val (.int .i64 (.ofNat (i / 8))), h),
     retV h (aIndexAddr Q 67 (.slice (some (ob, 0)) m m true) (.int .i64 (.ofNat (i / 8)))) = some (.val (.ptr (some (ob, i / 8))), h),
     retV h (aLoad Q h 5 ob (i / 8)) = some (.val (byteV a), h),
     retV h (aLoad Q h 67 bw 0) = some (.val (.slice (some (rb, 0)) n n true), h),
     retV h (aIndexAddr Q 67 (.slice (some (rb, 0)) n n true) (.int .i64 (.ofNat i))) = some (.val (.ptr (some (rb, i))), h),
     retV h (aLoad Q h 5 rb i) = some (.val (byteV d), h),
     retV h (aBin Q .rem 3 true (.int .i64 (.ofNat i)) (.int .i64 (.ofNat 8))) = some (.val (.int .i64 (.ofNat (i % 8))), h),
     aConvert Q h 3 345 (.int .i64 (.ofNat (i % 8))) = some (.val (.int .u64 (.ofNat (i % 8))), h),
     retV h (aBin Q .shl 5 false (byteV d) (.int .u64 (.ofNat (i % 8)))) = some (.val (byteV (d * 2 ^ (i % 8))), h),
     retV h (aBin Q .add 5 false (byteV a) (byteV (d * 2 ^ (i % 8)))) = some (.val (byteV (a + d * 2 ^ (i % 8))), h),
     retV h (aIndexAddr Q 67 (.slice (some (ob, 0)) m m true) (.int .i64 (.ofNat (i / 8)))) = some (.val (.ptr (some (ob, i / 8))), h),
     (aStore Q h 5 ob (i / 8) (byteV (a + d * 2 ^ (i % 8)))).map (fun h => (ARes.skip, h)) = some (.skip, h3),
     retV h3 (aBin Q .add 3 true (.int .i64 (.ofNat i)) (.int .i64 (.ofNat 1))) = some (.val (.int .i64 (.ofNat (i + 1))), h3)]) := by kernel_rfl
theorem txRound_slots (Post : Value → World → Prop) (h : AH) (h3 : AH) (bw : Nat) (rb : Nat) (n : Nat) (i : Nat) (ob : Nat) (m : Nat) (a : Nat) (d : Nat) (x : Nat → AV) : slots 43 (tOf (txRoundR Post h h3 bw rb n i ob m a d x)) = (.ptr (some (bw, 0)) :: gs (txRoundR Post h h3 bw rb n i ob m a d x) 1 :: gs (txRoundR Post h h3 bw rb n i ob m a d x) 2 :: .slice (some (ob, 0)) m m true :: .int .i64 (.ofNat (i + 1)) :: gs (txRoundR Post h h3 bw rb n i ob m a d x) 5 :: gs (txRoundR Post h h3 bw rb n i ob m a d x) 6 :: gs (txRoundR Post h h3 bw rb n i ob m a d x) 7 :: gs (txRoundR Post h h3 bw rb n i ob m a d x) 8 :: gs (txRoundR Post h h3 bw rb n i ob m a d x) 9 :: gs (txRoundR Post h h3 bw rb n i ob m a d x) 10 :: gs (txRoundR Post h h3 bw rb n i ob m a d x) 11 :: gs (txRoundR Post h h3 bw rb n i ob m a d x) 12 :: gs (txRoundR Post h h3 bw rb n i ob m a d x) 13 :: gs (txRoundR Post h h3 bw rb n i ob m a d x) 14 :: gs (txRoundR Post h h3 bw rb n i ob m a d x) 15 :: gs (txRoundR Post h h3 bw rb n i ob m a d x) 16 :: gs (txRoundR Post h h3 bw rb n i ob m a d x) 17 :: gs (txRoundR Post h h3 bw rb n i ob m a d x) 18 :: gs (txRoundR Post h h3 bw rb n i ob m a d x) 19 :: gs (txRoundR Post h h3 bw rb n i ob m a d x) 20 :: gs (txRoundR Post h h3 bw rb n i ob m a d x) 21 :: gs (txRoundR Post h h3 bw rb n i ob m a d x) 22 :: gs (txRoundR Post h h3 bw rb n i ob m a d x) 23 :: gs (txRoundR Post h h3 bw rb n i ob m a d x) 24 :: gs (txRoundR Post h h3 bw rb n i ob m a d x) 25 :: gs (txRoundR Post h h3 bw rb n i ob m a d x) 26 :: gs (txRoundR Post h h3 bw rb n i ob m a d x) 27 :: gs (txRoundR Post h h3 bw rb n i ob m a d x) 28 :: gs (txRoundR Post h h3 bw rb n i ob m a d x) 29 :: gs (txRoundR Post h h3 bw rb n i ob m a d x) 30 :: gs (txRoundR Post h h3 bw rb n i ob m a d x) 31 :: gs (txRoundR Post h h3 bw rb n i ob m a d x) 32 :: gs (txRoundR Post h h3 bw rb n i ob m a d x) 33 :: gs (txRoundR Post h h3 bw rb n i ob m a d x) 34 :: gs (txRoundR Post h h3 bw rb n i ob m a d x) 35 :: gs (txRoundR Post h h3 bw rb n i ob m a d x) 36 :: gs (txRoundR Post h h3 bw rb n i ob m a d x) 37 :: gs (txRoundR Post h h3 bw rb n i ob m a d x) 38 :: gs (txRoundR Post h h3 bw rb n i ob m a d x) 39 :: gs (txRoundR Post h h3 bw rb n i ob m a d x) 40 :: gs (txRoundR Post h h3 bw rb n i ob m a d x) 41 :: gs (txRoundR Post h h3 bw rb n i ob m a d x) 42 :: []) := by kernel_rfl
theorem txRound_def (Post : Value → World → Prop) (h : AH) (h3 : AH) (bw : Nat) (rb : Nat) (n : Nat) (i : Nat) (ob : Nat) (m : Nat) (a : Nat) (d : Nat) (x : Nat → AV) : txRoundR Post h h3 bw rb n i ob m a d x = E Post [] (txRoundOv h h3 bw rb n i ob m a d) txBody { t := T.ofList (.ptr (some (bw, 0)) :: x 1 :: x 2 :: .slice (some (ob, 0)) m m true :: .int .i64 (.ofNat i) :: x 5 :: x 6 :: x 7 :: x 8 :: x 9 :: x 10 :: x 11 :: x 12 :: x 13 :: x 14 :: x 15 :: x 16 :: x 17 :: x 18 :: x 19 :: x 20 :: x 21 :: x 22 :: x 23 :: x 24 :: x 25 :: x 26 :: x 27 :: x 28 :: x 29 :: x 30 :: x 31 :: x 32 :: x 33 :: x 34 :: x 35 :: x 36 :: x 37 :: x 38 :: x 39 :: x 40 :: x 41 :: x 42 :: []), n := 43, h := h, s := none } := by kernel_rfl
set_option maxRecDepth 100000 in
theorem txRound_C (Post : Value → World → Prop) (h : AH) (h3 : AH) (bw : Nat) (rb : Nat) (n : Nat) (i : Nat) (ob : Nat) (m : Nat) (a : Nat) (d : Nat) (x : Nat → AV) (hp : All [retV h (aLoad Q h 67 bw 0) = some (.val (.slice (some (rb, 0)) n n true), h),
     retV h (aLen Q 67 h (.slice (some (rb, 0)) n n true)) = some (.val (.int .i64 (.ofNat n)), h),
     retV h (aBin Q .lss 3 false (.int .i64 (.ofNat i)) (.int .i64 (.ofNat n))) = some (.val (.bool true), h),
     retV h (aBin Q .rem 3 true (.int .i64 (.ofNat i)) (.int .i64 (.ofNat 8))) = some (.val (.int .i64 (.ofNat (i % 8))), h),
     retV h (aBin Q .eql 3 true (.int .i64 (.ofNat (i % 8))) (.int .i64 (.ofNat 0))) = some (.val (.bool false), h),
     retV h (aBin Q .quo 3 true (.int .i64 (.ofNat i)) (.int .i64 (.ofNat 8))) = some (.val (.int .i64 (.ofNat (i / 8))), h),
     retV h (aBin Q .quo 3 true (.int .i64 (.ofNat i)) (.int .i64 (.ofNat 8))) = some (.val (.int .i64 (.ofNat (i / 8))), h),
     retV h (aIndexAddr Q 67 (.slice (some (ob, 0)) m m true) (.int .i64 (.ofNat (i / 8)))) = some (.val (.ptr (some (ob, i / 8))), h),
     retV h (aLoad Q h 5 ob (i / 8)) = some (.val (byteV a), h),
     retV h (aLoad Q h 67 bw 0) = some (.val (.slice (some (rb, 0)) n n true), h),
     retV h (aIndexAddr Q 67 (.slice (some (rb, 0)) n n true) (.int .i64 (.ofNat i))) = some (.val (.ptr (some (rb, i))), h),
     retV h (aLoad Q h 5 rb i) = some (.val (byteV d), h),
     retV h (aBin Q .rem 3 true (.int .i64 (.ofNat i)) (.int .i64 (.ofNat 8))) = some (.val (.int .i64 (.ofNat (i % 8))), h),
     aConvert Q h 3 345 (.int .i64 (.ofNat (i % 8))) = some (.val (.int .u64 (.ofNat (i % 8))), h),
     retV h (aBin Q .shl 5 false (byteV d) (.int .u64 (.ofNat (i % 8)))) = some (.val (byteV (d * 2 ^ (i % 8))), h),
     retV h (aBin Q .add 5 false (byteV a) (byteV (d * 2 ^ (i % 8)))) = some (.val (byteV (a + d * 2 ^ (i % 8))), h),
     retV h (aIndexAddr Q 67 (.slice (some (ob, 0)) m m true) (.int .i64 (.ofNat (i / 8)))) = some (.val (.ptr (some (ob, i / 8))), h),
     (aStore Q h 5 ob (i / 8) (byteV (a + d * 2 ^ (i % 8)))).map (fun h => (ARes.skip, h)) = some (.skip, h3),
     retV h3 (aBin Q .add 3 true (.int .i64 (.ofNat i)) (.int .i64 (.ofNat 1))) = some (.val (.int .i64 (.ofNat (i + 1))), h3)]) : SndC Q Post txBody { t := T.ofList (.ptr (some (bw, 0)) :: x 1 :: x 2 :: .slice (some (ob, 0)) m m true :: .int .i64 (.ofNat i) :: x 5 :: x 6 :: x 7 :: x 8 :: x 9 :: x 10 :: x 11 :: x 12 :: x 13 :: x 14 :: x 15 :: x 16 :: x 17 :: x 18 :: x 19 :: x 20 :: x 21 :: x 22 :: x 23 :: x 24 :: x 25 :: x 26 :: x 27 :: x 28 :: x 29 :: x 30 :: x 31 :: x 32 :: x 33 :: x 34 :: x 35 :: x 36 :: x 37 :: x 38 :: x 39 :: x 40 :: x 41 :: x 42 :: []), n := 43, h := h, s := none } (.normal) { t := T.ofList (.ptr (some (bw, 0)) :: gs (txRoundR Post h h3 bw rb n i ob m a d x) 1 :: gs (txRoundR Post h h3 bw rb n i ob m a d x) 2 :: .slice (some (ob, 0)) m m true :: .int .i64 (.ofNat (i + 1)) :: gs (txRoundR Post h h3 bw rb n i ob m a d x) 5 :: gs (txRoundR Post h h3 bw rb n i ob m a d x) 6 :: gs (txRoundR Post h h3 bw rb n i ob m a d x) 7 :: gs (txRoundR Post h h3 bw rb n i ob m a d x) 8 :: gs (txRoundR Post h h3 bw rb n i ob m a d x) 9 :: gs (txRoundR Post h h3 bw rb n i ob m a d x) 10 :: gs (txRoundR Post h h3 bw rb n i ob m a d x) 11 :: gs (txRoundR Post h h3 bw rb n i ob m a d x) 12 :: gs (txRoundR Post h h3 bw rb n i ob m a d x) 13 :: gs (txRoundR Post h h3 bw rb n i ob m a d x) 14 :: gs (txRoundR Post h h3 bw rb n i ob m a d x) 15 :: gs (txRoundR Post h h3 bw rb n i ob m a d x) 16 :: gs (txRoundR Post h h3 bw rb n i ob m a d x) 17 :: gs (txRoundR Post h h3 bw rb n i ob m a d x) 18 :: gs (txRoundR Post h h3 bw rb n i ob m a d x) 19 :: gs (txRoundR Post h h3 bw rb n i ob m a d x) 20 :: gs (txRoundR Post h h3 bw rb n i ob m a d x) 21 :: gs (txRoundR Post h h3 bw rb n i ob m a d x) 22 :: gs (txRoundR Post h h3 bw rb n i ob m a d x) 23 :: gs (txRoundR Post h h3 bw rb n i ob m a d x) 24 :: gs (txRoundR Post h h3 bw rb n i ob m a d x) 25 :: gs (txRoundR Post h h3 bw rb n i ob m a d x) 26 :: gs (txRoundR Post h h3 bw rb n i ob m a d x) 27 :: gs (txRoundR Post h h3 bw rb n i ob m a d x) 28 :: gs (txRoundR Post h h3 bw rb n i ob m a d x) 29 :: gs (txRoundR Post h h3 bw rb n i ob m a d x) 30 :: gs (txRoundR Post h h3 bw rb n i ob m a d x) 31 :: gs (txRoundR Post h h3 bw rb n i ob m a d x) 32 :: gs (txRoundR Post h h3 bw rb n i ob m a d x) 33 :: gs (txRoundR Post h h3 bw rb n i ob m a d x) 34 :: gs (txRoundR Post h h3 bw rb n i ob m a d x) 35 :: gs (txRoundR Post h h3 bw rb n i ob m a d x) 36 :: gs (txRoundR Post h h3 bw rb n i ob m a d x) 37 :: gs (txRoundR Post h h3 bw rb n i ob m a d x) 38 :: gs (txRoundR Post h h3 bw rb n i ob m a d x) 39 :: gs (txRoundR Post h h3 bw rb n i ob m a d x) 40 :: gs (txRoundR Post h h3 bw rb n i ob m a d x) 41 :: gs (txRoundR Post h h3 bw rb n i ob m a d x) 42 :: []), n := 43, h := h3, s := none } :=
  canonC (runE TabsOk.nil (txRound_def Post h h3 bw rb n i ob m a d x) (txRound_run Post h h3 bw rb n i ob m a d x) hp) (txRound_slots Post h h3 bw rb n i ob m a d x)
def txNewOv (h : AH) (h3 : AH) (_bw : Nat) (rb : Nat) (n : Nat) (i : Nat) (ob : Nat) (m : Nat) (a : Nat) (d : Nat) (h2 : AH) (_o : AV) : Nat → Nat → Option Ov
  | 3, 4 => some (.val (.slice (some (rb, 0)) n n true) h)
  | 3, 5 => some (.val (.int .i64 (.ofNat n)) h)
  | 3, 6 => some (.val (.bool true) h)
  | 5, 1 => some (.val (.int .i64 (.ofNat (i % 8))) h)
  | 5, 2 => some (.val (.bool true) h)
  | 6, 2 => some (.val (.slice (some (ob, 0)) m m true) h2)
  | 7, 2 => some (.val (.int .i64 (.ofNat (i / 8))) h2)
  | 7, 5 => some (.val (.int .i64 (.ofNat (i / 8))) h2)
  | 7, 6 => some (.val (.ptr (some (ob, i / 8))) h2)
  | 7, 7 => some (.val (byteV a) h2)
  | 7, 11 => some (.val (.slice (some (rb, 0)) n n true) h2)
  | 7, 13 => some (.val (.ptr (some (rb, i))) h2)
  | 7, 14 => some (.val (byteV d) h2)
  | 7, 16 => some (.val (.int .i64 (.ofNat (i % 8))) h2)
  | 7, 17 => some (.val (.int .u64 (.ofNat (i % 8))) h2)
  | 7, 18 => some (.val (byteV (d * 2 ^ (i % 8))) h2)
  | 7, 19 => some (.val (byteV (a + d * 2 ^ (i % 8))) h2)
  | 7, 20 => some (.val (.ptr (some (ob, i / 8))) h2)
  | 7, 21 => some (.skip h3)
  | 4, 1 => some (.val (.int .i64 (.ofNat (i + 1))) h3)
  | _, _ => none
noncomputable def txNewR (Post : Value → World → Prop) (h : AH) (h3 : AH) (bw : Nat) (rb : Nat) (n : Nat) (i : Nat) (ob : Nat) (m : Nat) (a : Nat) (d : Nat) (h2 : AH) (o : AV) (x : Nat → AV) : Option (Ex × AS × List Prop) := E Post [] (txNewOv h h3 bw rb n i ob m a d h2 o) txBody { t := T.ofList (.ptr (some (bw, 0)) :: x 1 :: x 2 :: o :: .int .i64 (.ofNat i) :: x 5 :: x 6 :: x 7 :: x 8 :: x 9 :: x 10 :: x 11 :: x 12 :: x 13 :: x 14 :: x 15 :: x 16 :: x 17 :: x 18 :: x 19 :: x 20 :: x 21 :: x 22 :: x 23 :: x 24 :: x 25 :: x 26 :: x 27 :: x 28 :: x 29 :: x 30 :: x 31 :: x 32 :: x 33 :: x 34 :: x 35 :: x 36 :: x 37 :: x 38 :: x 39 :: x 40 :: x 41 :: x 42 :: []), n := 43, h := h, s := none }
theorem txNew_run (Post : Value → World → Prop) (h : AH) (h3 : AH) (bw : Nat) (rb : Nat) (n : Nat) (i : Nat) (ob : Nat) (m : Nat) (a : Nat) (d : Nat) (h2 : AH) (o : AV) (x : Nat → AV) : txNewR Post h h3 bw rb n i ob m a d h2 o x = some (.normal, { t := tOf (txNewR Post h h3 bw rb n i ob m a d h2 o x), n := 43, h := h3, s := none },
    [retV h (aLoad Q h 67 bw 0) = some (.val (.slice (some (rb, 0)) n n true), h),
     retV h (aLen Q 67 h (.slice (some (rb, 0)) n n true)) = some (.val (.int .i64 (.ofNat n)), h),
     retV h (aBin Q .lss 3 false (.int .i64 (.ofNat i)) (.int .i64 (.ofNat n))) = some (.val (.bool true), h),
     retV h (aBin Q .rem 3 true (.int .i64 (.ofNat i)) (.int .i64 (.ofNat 8))) = some (.val (.int .i64 (.ofNat (i % 8))), h),
     retV h (aBin Q .eql 3 true (.int .i64 (.ofNat (i % 8))) (.int .i64 (.ofNat 0))) = some (.val (.bool true), h),
     aAppend Q (h.push (.cells 5 1 (T.ofList [byteV 0]) false false)) [67, 67] [o, .slice (some (h.n, 0)) 1 1 false] = some (.val (.slice (some (ob, 0)) m m true), h2),
     retV h2 (aBin Q .quo 3 true (.int .i64 (.ofNat i)) (.int .i64 (.ofNat 8))) = some (.val (.int .i64 (.ofNat (i / 8))), h2),
     retV h2 (aBin Q .quo 3 true (.int .i64 (.ofNat i)) (.int .i64 (.ofNat 8))) = some (.val (.int .i64 (.ofNat (i / 8))), h2),
     retV h2 (aIndexAddr Q 67 (.slice (some (ob, 0)) m m true) (.int .i64 (.ofNat (i / 8)))) = some (.val (.ptr (some (ob, i / 8))), h2),
     retV h2 (aLoad Q h2 5 ob (i / 8)) = some (.val (byteV a), h2),
     retV h2 (aLoad Q h2 67 bw 0) = some (.val (.slice (some (rb, 0)) n n true), h2),
     retV h2 (aIndexAddr Q 67 (.slice (some (rb, 0)) n n true) (.int .i64 (.ofNat i))) = some (.val (.ptr (some (rb, i))), h2),
     retV h2 (aLoad Q h2 5 rb i) = some (.val (byteV d), h2),
     retV h2 (aBin Q .rem 3 true (.int .i64 (.ofNat i)) (.int .i64 (.ofNat 8))) = some (.val (.int .i64 (.ofNat (i % 8))), h2),
     aConvert Q h2 3 345 (.int .i64 (.ofNat (i % 8))) = some (.val (.int .u64 (.ofNat (i % 8))), h2),
     retV h2 (aBin Q .shl 5 false (byteV d) (.int .u64 (.ofNat (i % 8)))) = some (.val (byteV (d * 2 ^ (i % 8))), h2),
     retV h2 (aBin Q .add 5 false (byteV a) (byteV (d * 2 ^ (i % 8)))) = some (.val (byteV (a + d * 2 ^ (i % 8))), h2),
     retV h2 (aIndexAddr Q 67 (.slice (some (ob, 0)) m m true) (.int .i64 (.ofNat (i / 8)))) = some (.val (.ptr (some (ob, i / 8))), h2),
     (aStore Q h2 5 ob (i / 8) (byteV (a + d * 2 ^ (i % 8)))).map (fun h => (ARes.skip, h)) = some (.skip, h3),
     retV h3 (aBin Q .add 3 true (.int .i64 (.ofNat i)) (.int .i64 (.ofNat 1))) = some (.val (.int .i64 (.ofNat (i + 1))), h3)]) := by kernel_rfl
theorem txNew_slots (Post : Value → World → Prop) (h : AH) (h3 : AH) (bw : Nat) (rb : Nat) (n : Nat) (i : Nat) (ob : Nat) (m : Nat) (a : Nat) (d : Nat) (h2 : AH) (o : AV) (x : Nat → AV) : slots 43 (tOf (txNewR Post h h3 bw rb n i ob m a d h2 o x)) = (.ptr (some (bw, 0)) :: gs (txNewR Post h h3 bw rb n i ob m a d h2 o x) 1 :: gs (txNewR Post h h3 bw rb n i ob m a d h2 o x) 2 :: .slice (some (ob, 0)) m m true :: .int .i64 (.ofNat (i + 1)) :: gs (txNewR Post h h3 bw rb n i ob m a d h2 o x) 5 :: gs (txNewR Post h h3 bw rb n i ob m a d h2 o x) 6 :: gs (txNewR Post h h3 bw rb n i ob m a d h2 o x) 7 :: gs (txNewR Post h h3 bw rb n i ob m a d h2 o x) 8 :: gs (txNewR Post h h3 bw rb n i ob m a d h2 o x) 9 :: gs (txNewR Post h h3 bw rb n i ob m a d h2 o x) 10 :: gs (txNewR Post h h3 bw rb n i ob m a d h2 o x) 11 :: gs (txNewR Post h h3 bw rb n i ob m a d h2 o x) 12 :: gs (txNewR Post h h3 bw rb n i ob m a d h2 o x) 13 :: gs (txNewR Post h h3 bw rb n i ob m a d h2 o x) 14 :: gs (txNewR Post h h3 bw rb n i ob m a d h2 o x) 15 :: gs (txNewR Post h h3 bw rb n i ob m a d h2 o x) 16 :: gs (txNewR Post h h3 bw rb n i ob m a d h2 o x) 17 :: gs (txNewR Post h h3 bw rb n i ob m a d h2 o x) 18 :: gs (txNewR Post h h3 bw rb n i ob m a d h2 o x) 19 :: gs (txNewR Post h h3 bw rb n i ob m a d h2 o x) 20 :: gs (txNewR Post h h3 bw rb n i ob m a d h2 o x) 21 :: gs (txNewR Post h h3 bw rb n i ob m a d h2 o x) 22 :: gs (txNewR Post h h3 bw rb n i ob m a d h2 o x) 23 :: gs (txNewR Post h h3 bw rb n i ob m a d h2 o x) 24 :: gs (txNewR Post h h3 bw rb n i ob m a d h2 o x) 25 :: gs (txNewR Post h h3 bw rb n i ob m a d h2 o x) 26 :: gs (txNewR Post h h3 bw rb n i ob m a d h2 o x) 27 :: gs (txNewR Post h h3 bw rb n i ob m a d h2 o x) 28 :: gs (txNewR Post h h3 bw rb n i ob m a d h2 o x) 29 :: gs (txNewR Post h h3 bw rb n i ob m a d h2 o x) 30 :: gs (txNewR Post h h3 bw rb n i ob m a d h2 o x) 31 :: gs (txNewR Post h h3 bw rb n i ob m a d h2 o x) 32 :: gs (txNewR Post h h3 bw rb n i ob m a d h2 o x) 33 :: gs (txNewR Post h h3 bw rb n i ob m a d h2 o x) 34 :: gs (txNewR Post h h3 bw rb n i ob m a d h2 o x) 35 :: gs (txNewR Post h h3 bw rb n i ob m a d h2 o x) 36 :: gs (txNewR Post h h3 bw rb n i ob m a d h2 o x) 37 :: gs (txNewR Post h h3 bw rb n i ob m a d h2 o x) 38 :: gs (txNewR Post h h3 bw rb n i ob m a d h2 o x) 39 :: gs (txNewR Post h h3 bw rb n i ob m a d h2 o x) 40 :: gs (txNewR Post h h3 bw rb n i ob m a d h2 o x) 41 :: gs (txNewR Post h h3 bw rb n i ob m a d h2 o x) 42 :: []) := by kernel_rfl
theorem txNew_def (Post : Value → World → Prop) (h : AH) (h3 : AH) (bw : Nat) (rb : Nat) (n : Nat) (i : Nat) (ob : Nat) (m : Nat) (a : Nat) (d : Nat) (h2 : AH) (o : AV) (x : Nat → AV) : txNewR Post h h3 bw rb n i ob m a d h2 o x = E Post [] (txNewOv h h3 bw rb n i ob m a d h2 o) txBody { t := T.ofList (.ptr (some (bw, 0)) :: x 1 :: x 2 :: o :: .int .i64 (.ofNat i) :: x 5 :: x 6 :: x 7 :: x 8 :: x 9 :: x 10 :: x 11 :: x 12 :: x 13 :: x 14 :: x 15 :: x 16 :: x 17 :: x 18 :: x 19 :: x 20 :: x 21 :: x 22 :: x 23 :: x 24 :: x 25 :: x 26 :: x 27 :: x 28 :: x 29 :: x 30 :: x 31 :: x 32 :: x 33 :: x 34 :: x 35 :: x 36 :: x 37 :: x 38 :: x 39 :: x 40 :: x 41 :: x 42 :: []), n := 43, h := h, s := none } := by kernel_rfl
set_option maxRecDepth 100000 in
theorem txNew_C (Post : Value → World → Prop) (h : AH) (h3 : AH) (bw : Nat) (rb : Nat) (n : Nat) (i : Nat) (ob : Nat) (m : Nat) (a : Nat) (d : Nat) (h2 : AH) (o : AV) (x : Nat → AV) (hp : All [retV h (aLoad Q h 67 bw 0) = some (.val (.slice (some (rb, 0)) n n true), h),
     retV h (aLen Q 67 h (.slice (some (rb, 0)) n n true)) = some (.val (.int .i64 (.ofNat n)), h),
     retV h (aBin Q .lss 3 false (.int .i64 (.ofNat i)) (.int .i64 (.ofNat n))) = some (.val (.bool true), h),
     retV h (aBin Q .rem 3 true (.int .i64 (.ofNat i)) (.int .i64 (.ofNat 8))) = some (.val (.int .i64 (.ofNat (i % 8))), h),
     retV h (aBin Q .eql 3 true (.int .i64 (.ofNat (i % 8))) (.int .i64 (.ofNat 0))) = some (.val (.bool true), h),
     aAppend Q (h.push (.cells 5 1 (T.ofList [byteV 0]) false false)) [67, 67] [o, .slice (some (h.n, 0)) 1 1 false] = some (.val (.slice (some (ob, 0)) m m true), h2),
     retV h2 (aBin Q .quo 3 true (.int .i64 (.ofNat i)) (.int .i64 (.ofNat 8))) = some (.val (.int .i64 (.ofNat (i / 8))), h2),
     retV h2 (aBin Q .quo 3 true (.int .i64 (.ofNat i)) (.int .i64 (.ofNat 8))) = some (.val (.int .i64 (.ofNat (i / 8))), h2),
     retV h2 (aIndexAddr Q 67 (.slice (some (ob, 0)) m m true) (.int .i64 (.ofNat (i / 8)))) = some (.val (.ptr (some (ob, i / 8))), h2),
     retV h2 (aLoad Q h2 5 ob (i / 8)) = some (.val (byteV a), h2),
     retV h2 (aLoad Q h2 67 bw 0) = some (.val (.slice (some (rb, 0)) n n true), h2),
     retV h2 (aIndexAddr Q 67 (.slice (some (rb, 0)) n n true) (.int .i64 (.ofNat i))) = some (.val (.ptr (some (rb, i))), h2),
     retV h2 (aLoad Q h2 5 rb i) = some (.val (byteV d), h2),
     retV h2 (aBin Q .rem 3 true (.int .i64 (.ofNat i)) (.int .i64 (.ofNat 8))) = some (.val (.int .i64 (.ofNat (i % 8))), h2),
     aConvert Q h2 3 345 (.int .i64 (.ofNat (i % 8))) = some (.val (.int .u64 (.ofNat (i % 8))), h2),
     retV h2 (aBin Q .shl 5 false (byteV d) (.int .u64 (.ofNat (i % 8)))) = some (.val (byteV (d * 2 ^ (i % 8))), h2),
     retV h2 (aBin Q .add 5 false (byteV a) (byteV (d * 2 ^ (i % 8)))) = some (.val (byteV (a + d * 2 ^ (i % 8))), h2),
     retV h2 (aIndexAddr Q 67 (.slice (some (ob, 0)) m m true) (.int .i64 (.ofNat (i / 8)))) = some (.val (.ptr (some (ob, i / 8))), h2),
     (aStore Q h2 5 ob (i / 8) (byteV (a + d * 2 ^ (i % 8)))).map (fun h => (ARes.skip, h)) = some (.skip, h3),
     retV h3 (aBin Q .add 3 true (.int .i64 (.ofNat i)) (.int .i64 (.ofNat 1))) = some (.val (.int .i64 (.ofNat (i + 1))), h3)]) : SndC Q Post txBody { t := T.ofList (.ptr (some (bw, 0)) :: x 1 :: x 2 :: o :: .int .i64 (.ofNat i) :: x 5 :: x 6 :: x 7 :: x 8 :: x 9 :: x 10 :: x 11 :: x 12 :: x 13 :: x 14 :: x 15 :: x 16 :: x 17 :: x 18 :: x 19 :: x 20 :: x 21 :: x 22 :: x 23 :: x 24 :: x 25 :: x 26 :: x 27 :: x 28 :: x 29 :: x 30 :: x 31 :: x 32 :: x 33 :: x 34 :: x 35 :: x 36 :: x 37 :: x 38 :: x 39 :: x 40 :: x 41 :: x 42 :: []), n := 43, h := h, s := none } (.normal) { t := T.ofList (.ptr (some (bw, 0)) :: gs (txNewR Post h h3 bw rb n i ob m a d h2 o x) 1 :: gs (txNewR Post h h3 bw rb n i ob m a d h2 o x) 2 :: .slice (some (ob, 0)) m m true :: .int .i64 (.ofNat (i + 1)) :: gs (txNewR Post h h3 bw rb n i ob m a d h2 o x) 5 :: gs (txNewR Post h h3 bw rb n i ob m a d h2 o x) 6 :: gs (txNewR Post h h3 bw rb n i ob m a d h2 o x) 7 :: gs (txNewR Post h h3 bw rb n i ob m a d h2 o x) 8 :: gs (txNewR Post h h3 bw rb n i ob m a d h2 o x) 9 :: gs (txNewR Post h h3 bw rb n i ob m a d h2 o x) 10 :: gs (txNewR Post h h3 bw rb n i ob m a d h2 o x) 11 :: gs (txNewR Post h h3 bw rb n i ob m a d h2 o x) 12 :: gs (txNewR Post h h3 bw rb n i ob m a d h2 o x) 13 :: gs (txNewR Post h h3 bw rb n i ob m a d h2 o x) 14 :: gs (txNewR Post h h3 bw rb n i ob m a d h2 o x) 15 :: gs (txNewR Post h h3 bw rb n i ob m a d h2 o x) 16 :: gs (txNewR Post h h3 bw rb n i ob m a d h2 o x) 17 :: gs (txNewR Post h h3 bw rb n i ob m a d h2 o x) 18 :: gs (txNewR Post h h3 bw rb n i ob m a d h2 o x) 19 :: gs (txNewR Post h h3 bw rb n i ob m a d h2 o x) 20 :: gs (txNewR Post h h3 bw rb n i ob m a d h2 o x) 21 :: gs (txNewR Post h h3 bw rb n i ob m a d h2 o x) 22 :: gs (txNewR Post h h3 bw rb n i ob m a d h2 o x) 23 :: gs (txNewR Post h h3 bw rb n i ob m a d h2 o x) 24 :: gs (txNewR Post h h3 bw rb n i ob m a d h2 o x) 25 :: gs (txNewR Post h h3 bw rb n i ob m a d h2 o x) 26 :: gs (txNewR Post h h3 bw rb n i ob m a d h2 o x) 27 :: gs (txNewR Post h h3 bw rb n i ob m a d h2 o x) 28 :: gs (txNewR Post h h3 bw rb n i ob m a d h2 o x) 29 :: gs (txNewR Post h h3 bw rb n i ob m a d h2 o x) 30 :: gs (txNewR Post h h3 bw rb n i ob m a d h2 o x) 31 :: gs (txNewR Post h h3 bw rb n i ob m a d h2 o x) 32 :: gs (txNewR Post h h3 bw rb n i ob m a d h2 o x) 33 :: gs (txNewR Post h h3 bw rb n i ob m a d h2 o x) 34 :: gs (txNewR Post h h3 bw rb n i ob m a d h2 o x) 35 :: gs (txNewR Post h h3 bw rb n i ob m a d h2 o x) 36 :: gs (txNewR Post h h3 bw rb n i ob m a d h2 o x) 37 :: gs (txNewR Post h h3 bw rb n i ob m a d h2 o x) 38 :: gs (txNewR Post h h3 bw rb n i ob m a d h2 o x) 39 :: gs (txNewR Post h h3 bw rb n i ob m a d h2 o x) 40 :: gs (txNewR Post h h3 bw rb n i ob m a d h2 o x) 41 :: gs (txNewR Post h h3 bw rb n i ob m a d h2 o x) 42 :: []), n := 43, h := h3, s := none } :=
  canonC (runE TabsOk.nil (txNew_def Post h h3 bw rb n i ob m a d h2 o x) (txNew_run Post h h3 bw rb n i ob m a d h2 o x) hp) (txNew_slots Post h h3 bw rb n i ob m a d h2 o x)
def txLastOv (h : AH) (_bw : Nat) (_o : AV) (w : AV) (n : Nat) (_i : Nat) : Nat → Nat → Option Ov
  | 3, 4 => some (.val (w) h)
  | 3, 5 => some (.val (.int .i64 (.ofNat n)) h)
  | 3, 6 => some (.val (.bool false) h)
  | _, _ => none
noncomputable def txLastR (Post : Value → World → Prop) (h : AH) (bw : Nat) (o : AV) (w : AV) (n : Nat) (i : Nat) (x : Nat → AV) : Option (Ex × AS × List Prop) := E Post [] (txLastOv h bw o w n i) txBody { t := T.ofList (.ptr (some (bw, 0)) :: x 1 :: x 2 :: o :: .int .i64 (.ofNat i) :: x 5 :: x 6 :: x 7 :: x 8 :: x 9 :: x 10 :: x 11 :: x 12 :: x 13 :: x 14 :: x 15 :: x 16 :: x 17 :: x 18 :: x 19 :: x 20 :: x 21 :: x 22 :: x 23 :: x 24 :: x 25 :: x 26 :: x 27 :: x 28 :: x 29 :: x 30 :: x 31 :: x 32 :: x 33 :: x 34 :: x 35 :: x 36 :: x 37 :: x 38 :: x 39 :: x 40 :: x 41 :: x 42 :: []), n := 43, h := h, s := none }
theorem txLast_run (Post : Value → World → Prop) (h : AH) (bw : Nat) (o : AV) (w : AV) (n : Nat) (i : Nat) (x : Nat → AV) : txLastR Post h bw o w n i x = some (.exit 0, { t := tOf (txLastR Post h bw o w n i x), n := 43, h := h, s := none },
    [retV h (aLoad Q h 67 bw 0) = some (.val (w), h),
     retV h (aLen Q 67 h w) = some (.val (.int .i64 (.ofNat n)), h),
     retV h (aBin Q .lss 3 false (.int .i64 (.ofNat i)) (.int .i64 (.ofNat n))) = some (.val (.bool false), h)]) := by kernel_rfl
theorem txLast_slots (Post : Value → World → Prop) (h : AH) (bw : Nat) (o : AV) (w : AV) (n : Nat) (i : Nat) (x : Nat → AV) : slots 43 (tOf (txLastR Post h bw o w n i x)) = (.ptr (some (bw, 0)) :: gs (txLastR Post h bw o w n i x) 1 :: gs (txLastR Post h bw o w n i x) 2 :: o :: .int .i64 (.ofNat i) :: gs (txLastR Post h bw o w n i x) 5 :: gs (txLastR Post h bw o w n i x) 6 :: gs (txLastR Post h bw o w n i x) 7 :: gs (txLastR Post h bw o w n i x) 8 :: gs (txLastR Post h bw o w n i x) 9 :: gs (txLastR Post h bw o w n i x) 10 :: gs (txLastR Post h bw o w n i x) 11 :: gs (txLastR Post h bw o w n i x) 12 :: gs (txLastR Post h bw o w n i x) 13 :: gs (txLastR Post h bw o w n i x) 14 :: gs (txLastR Post h bw o w n i x) 15 :: gs (txLastR Post h bw o w n i x) 16 :: gs (txLastR Post h bw o w n i x) 17 :: gs (txLastR Post h bw o w n i x) 18 :: gs (txLastR Post h bw o w n i x) 19 :: gs (txLastR Post h bw o w n i x) 20 :: gs (txLastR Post h bw o w n i x) 21 :: gs (txLastR Post h bw o w n i x) 22 :: gs (txLastR Post h bw o w n i x) 23 :: gs (txLastR Post h bw o w n i x) 24 :: gs (txLastR Post h bw o w n i x) 25 :: gs (txLastR Post h bw o w n i x) 26 :: gs (txLastR Post h bw o w n i x) 27 :: gs (txLastR Post h bw o w n i x) 28 :: gs (txLastR Post h bw o w n i x) 29 :: gs (txLastR Post h bw o w n i x) 30 :: gs (txLastR Post h bw o w n i x) 31 :: gs (txLastR Post h bw o w n i x) 32 :: gs (txLastR Post h bw o w n i x) 33 :: gs (txLastR Post h bw o w n i x) 34 :: gs (txLastR Post h bw o w n i x) 35 :: gs (txLastR Post h bw o w n i x) 36 :: gs (txLastR Post h bw o w n i x) 37 :: gs (txLastR Post h bw o w n i x) 38 :: gs (txLastR Post h bw o w n i x) 39 :: gs (txLastR Post h bw o w n i x) 40 :: gs (txLastR Post h bw o w n i x) 41 :: gs (txLastR Post h bw o w n i x) 42 :: []) := by kernel_rfl
theorem txLast_def (Post : Value → World → Prop) (h : AH) (bw : Nat) (o : AV) (w : AV) (n : Nat) (i : Nat) (x : Nat → AV) : txLastR Post h bw o w n i x = E Post [] (txLastOv h bw o w n i) txBody { t := T.ofList (.ptr (some (bw, 0)) :: x 1 :: x 2 :: o :: .int .i64 (.ofNat i) :: x 5 :: x 6 :: x 7 :: x 8 :: x 9 :: x 10 :: x 11 :: x 12 :: x 13 :: x 14 :: x 15 :: x 16 :: x 17 :: x 18 :: x 19 :: x 20 :: x 21 :: x 22 :: x 23 :: x 24 :: x 25 :: x 26 :: x 27 :: x 28 :: x 29 :: x 30 :: x 31 :: x 32 :: x 33 :: x 34 :: x 35 :: x 36 :: x 37 :: x 38 :: x 39 :: x 40 :: x 41 :: x 42 :: []), n := 43, h := h, s := none } := by kernel_rfl
set_option maxRecDepth 100000 in
theorem txLast_C (Post : Value → World → Prop) (h : AH) (bw : Nat) (o : AV) (w : AV) (n : Nat) (i : Nat) (x : Nat → AV) (hp : All [retV h (aLoad Q h 67 bw 0) = some (.val (w), h),
     retV h (aLen Q 67 h w) = some (.val (.int .i64 (.ofNat n)), h),
     retV h (aBin Q .lss 3 false (.int .i64 (.ofNat i)) (.int .i64 (.ofNat n))) = some (.val (.bool false), h)]) : SndC Q Post txBody { t := T.ofList (.ptr (some (bw, 0)) :: x 1 :: x 2 :: o :: .int .i64 (.ofNat i) :: x 5 :: x 6 :: x 7 :: x 8 :: x 9 :: x 10 :: x 11 :: x 12 :: x 13 :: x 14 :: x 15 :: x 16 :: x 17 :: x 18 :: x 19 :: x 20 :: x 21 :: x 22 :: x 23 :: x 24 :: x 25 :: x 26 :: x 27 :: x 28 :: x 29 :: x 30 :: x 31 :: x 32 :: x 33 :: x 34 :: x 35 :: x 36 :: x 37 :: x 38 :: x 39 :: x 40 :: x 41 :: x 42 :: []), n := 43, h := h, s := none } (.exit 0) { t := T.ofList (.ptr (some (bw, 0)) :: gs (txLastR Post h bw o w n i x) 1 :: gs (txLastR Post h bw o w n i x) 2 :: o :: .int .i64 (.ofNat i) :: gs (txLastR Post h bw o w n i x) 5 :: gs (txLastR Post h bw o w n i x) 6 :: gs (txLastR Post h bw o w n i x) 7 :: gs (txLastR Post h bw o w n i x) 8 :: gs (txLastR Post h bw o w n i x) 9 :: gs (txLastR Post h bw o w n i x) 10 :: gs (txLastR Post h bw o w n i x) 11 :: gs (txLastR Post h bw o w n i x) 12 :: gs (txLastR Post h bw o w n i x) 13 :: gs (txLastR Post h bw o w n i x) 14 :: gs (txLastR Post h bw o w n i x) 15 :: gs (txLastR Post h bw o w n i x) 16 :: gs (txLastR Post h bw o w n i x) 17 :: gs (txLastR Post h bw o w n i x) 18 :: gs (txLastR Post h bw o w n i x) 19 :: gs (txLastR Post h bw o w n i x) 20 :: gs (txLastR Post h bw o w n i x) 21 :: gs (txLastR Post h bw o w n i x) 22 :: gs (txLastR Post h bw o w n i x) 23 :: gs (txLastR Post h bw o w n i x) 24 :: gs (txLastR Post h bw o w n i x) 25 :: gs (txLastR Post h bw o w n i x) 26 :: gs (txLastR Post h bw o w n i x) 27 :: gs (txLastR Post h bw o w n i x) 28 :: gs (txLastR Post h bw o w n i x) 29 :: gs (txLastR Post h bw o w n i x) 30 :: gs (txLastR Post h bw o w n i x) 31 :: gs (txLastR Post h bw o w n i x) 32 :: gs (txLastR Post h bw o w n i x) 33 :: gs (txLastR Post h bw o w n i x) 34 :: gs (txLastR Post h bw o w n i x) 35 :: gs (txLastR Post h bw o w n i x) 36 :: gs (txLastR Post h bw o w n i x) 37 :: gs (txLastR Post h bw o w n i x) 38 :: gs (txLastR Post h bw o w n i x) 39 :: gs (txLastR Post h bw o w n i x) 40 :: gs (txLastR Post h bw o w n i x) 41 :: gs (txLastR Post h bw o w n i x) 42 :: []), n := 43, h := h, s := none } :=
  canonC (runE TabsOk.nil (txLast_def Post h bw o w n i x) (txLast_run Post h bw o w n i x) hp) (txLast_slots Post h bw o w n i x)
def txDOv (h : AH) (_bw : Nat) (_o : AV) (_i : Nat) (l : List UInt8) : Nat → Nat → Option Ov
  | 8, 1 => some (.val (.str l) h)
  | _, _ => none
noncomputable def txDR (Post : Value → World → Prop) (h : AH) (bw : Nat) (o : AV) (i : Nat) (l : List UInt8) (x : Nat → AV) : Option (Ex × AS × List Prop) := E Post [] (txDOv h bw o i l) (csnd (csnd (csnd (bodyOf Tryz.f184)))) { t := T.ofList (.ptr (some (bw, 0)) :: x 1 :: x 2 :: o :: .int .i64 (.ofNat i) :: x 5 :: x 6 :: x 7 :: x 8 :: x 9 :: x 10 :: x 11 :: x 12 :: x 13 :: x 14 :: x 15 :: x 16 :: x 17 :: x 18 :: x 19 :: x 20 :: x 21 :: x 22 :: x 23 :: x 24 :: x 25 :: x 26 :: x 27 :: x 28 :: x 29 :: x 30 :: x 31 :: x 32 :: x 33 :: x 34 :: x 35 :: x 36 :: x 37 :: x 38 :: x 39 :: x 40 :: x 41 :: x 42 :: []), n := 43, h := h, s := none }
theorem txD_run (Post : Value → World → Prop) (h : AH) (bw : Nat) (o : AV) (i : Nat) (l : List UInt8) (x : Nat → AV) : txDR Post h bw o i l x = some (.ret, { t := tOf (txDR Post h bw o i l x), n := 43, h := h, s := none },
    [aConvert Q h 67 9 o = some (.val (.str l), h)]) := by kernel_rfl
theorem txD_res (Post : Value → World → Prop) (h : AH) (bw : Nat) (o : AV) (i : Nat) (l : List UInt8) (x : Nat → AV) : aResults Q Tryz.f184 { t := tOf (txDR Post h bw o i l x), n := 43, h := h, s := none } = some (.str l) := by kernel_rfl

noncomputable abbrev txSt (h : AH) (bw : Nat) (o : AV) (i : Nat) (x : Nat → AV) : AS := { t := T.ofList (.ptr (some (bw, 0)) :: x 1 :: x 2 :: o :: .int .i64 (.ofNat i) :: x 5 :: x 6 :: x 7 :: x 8 :: x 9 :: x 10 :: x 11 :: x 12 :: x 13 :: x 14 :: x 15 :: x 16 :: x 17 :: x 18 :: x 19 :: x 20 :: x 21 :: x 22 :: x 23 :: x 24 :: x 25 :: x 26 :: x 27 :: x 28 :: x 29 :: x 30 :: x 31 :: x 32 :: x 33 :: x 34 :: x 35 :: x 36 :: x 37 :: x 38 :: x 39 :: x 40 :: x 41 :: x 42 :: []), n := 43, h := h, s := none }
/-- One bit, put into the row that is there. -/
theorem tx_set {h : AH} {o : AV} {ob bw : Nat} {base : Option Nat} {L O : List Nat} {i v : Nat} (hw : WrAt h bw base L) (ho : Row h o O) (hob : rowBase o = some ob) (h1 : ob ≠ bw) (h2 : base ≠ some ob) (hi : i < O.length) :
    ∃ h3, aStore Q h 5 ob i (byteV v) = some h3 ∧ Row h3 o (O.set i v) ∧ WrAt h3 bw base L ∧ h3.n = h.n := by
  obtain ⟨rfl, hlt, c, q1, q2⟩ := row_base ho hob
  refine ⟨_, store5 q1 q2 hi, .inr ⟨ob, _, by rw [List.length_set], by rw [List.length_set]; simp [T.get_set]; rfl, by rw [List.length_set]; exact gets_set q2 hi v, hlt⟩, hw.mono (Nat.le_refl _) ?_ ?_, rfl⟩
  · simp only [T.get_set]; rw [if_neg h1]
  · intro b hb
    simp only [T.get_set]; rw [if_neg (fun e => h2 (by rw [hb, e]))]
set_option maxHeartbeats 400000 in
set_option maxRecDepth 100000 in
theorem tx_loop (Post : Value → World → Prop) {bw : Nat} {base : Option Nat} {L : List Nat} (hbits : ∀ b ∈ L, b ≤ 1) (hLl : L.length < 2 ^ 38) : ∀ (rest : List Nat) (i : Nat) (h : AH) (o : AV) (O : List Nat) (x : Nat → AV), L.drop i = rest → i ≤ L.length → WrAt h bw base L → Row h o O →
    (∀ k, rowBase o = some k → k ≠ bw ∧ base ≠ some k) → O.length = (i + 7) / 8 → (i % 8 ≠ 0 → O.getD (i / 8) 0 < 2 ^ (i % 8)) →
    ∃ h' o' x', SndL Q Post txBody (txSt h bw o i x) (.exit 0) (txSt h' bw o' L.length x') ∧ Row h' o' (textFold i O rest)
  | [], i, h, o, O, x, hr, hi, hw, ho, hb, hlen, hlast => by
    have hi : i = L.length := by
      have : L.length ≤ i := by simpa using hr
      omega
    subst hi
    obtain ⟨c, sl, w1, w2, w3, w4⟩ := hw
    have hd := SndC.run TabsOk.nil (txLast_run Post h bw o sl L.length L.length x) (by refine ⟨retV_of (load67 w1 w2), retV_of (row_len w3), retV_of (by rw [aBin_lss, decide_eq_false (by omega)]), trivial⟩)
    exact ⟨h, o, _, .done (canonC hd (txLast_slots Post h bw o sl L.length L.length x)) (by simp), ho⟩
  | d :: rest, i, h, o, O, x, hr, hi, hw, ho, hb, hlen, hlast => by
    have hd0 : L[i]? = some d := by
      have := congrArg (fun m : List Nat => m[0]?) hr
      simpa using this
    have hil : i < L.length := (List.getElem?_eq_some_iff.1 hd0).1
    have hdle : d ≤ 1 := hbits d (List.mem_of_getElem? hd0)
    have hgd : L.getD i 0 = d := by rw [List.getD_eq_getElem?_getD, hd0]; rfl
    have hr' : L.drop (i + 1) = rest := by
      have := congrArg List.tail hr
      simpa using this
    have hwb : ∃ rb, base = some rb := by
      obtain ⟨c, sl, w1, w2, w3, w4, w5, w6⟩ := hw
      rcases w3 with ⟨e, _⟩ | ⟨b, c', e, _⟩
      · rw [e] at hil; simp at hil
      · exact ⟨b, by rw [← w4, e]; rfl⟩
    obtain ⟨rb, rfl⟩ := hwb
    have hk7 : i % 8 < 8 := Nat.mod_lt _ (by decide)
    have hpow : 2 ^ (i % 8) * 2 ≤ 256 := by
      have : 2 ^ (i % 8) ≤ 2 ^ 7 := Nat.pow_le_pow_right (by decide) (by omega)
      omega
    have hp1 : 0 < 2 ^ (i % 8) := Nat.pow_pos (by decide)
    have hdp : d * 2 ^ (i % 8) ≤ 2 ^ (i % 8) := by
      have := Nat.mul_le_mul_right (2 ^ (i % 8)) hdle
      omega
    -- what both arms share, behind the row that is written to
    have common : ∀ (H : AH) (o2 : AV) (ob : Nat) (O1 : List Nat), WrAt H bw (some rb) L → Row H o2 O1 → rowBase o2 = some ob → ob ≠ bw → some rb ≠ some ob → O1.length = i / 8 + 1 → O1.getD (i / 8) 0 < 2 ^ (i % 8) →
        ∃ h3 wsl c, H.t.get bw = some (.cells 290 1 c false false) ∧ c.get 0 = some wsl ∧ wsl = .slice (some (rb, 0)) L.length L.length true ∧ o2 = .slice (some (ob, 0)) O1.length O1.length true ∧ Row H wsl L ∧
          retV H (aIndexAddr Q 67 (.slice (some (ob, 0)) O1.length O1.length true) (.int .i64 (.ofNat (i / 8)))) = some (.val (.ptr (some (ob, i / 8))), H) ∧
          retV H (aLoad Q H 5 ob (i / 8)) = some (.val (byteV (O1.getD (i / 8) 0)), H) ∧ retV H (aIndexAddr Q 67 (.slice (some (rb, 0)) L.length L.length true) (.int .i64 (.ofNat i))) = some (.val (.ptr (some (rb, i))), H) ∧
          retV H (aLoad Q H 5 rb i) = some (.val (byteV d), H) ∧ retV H (aBin Q .shl 5 false (byteV d) (.int .u64 (.ofNat (i % 8)))) = some (.val (byteV (d * 2 ^ (i % 8))), H) ∧
          retV H (aBin Q .add 5 false (byteV (O1.getD (i / 8) 0)) (byteV (d * 2 ^ (i % 8)))) = some (.val (byteV (O1.getD (i / 8) 0 + d * 2 ^ (i % 8))), H) ∧
          aStore Q H 5 ob (i / 8) (byteV (O1.getD (i / 8) 0 + d * 2 ^ (i % 8))) = some h3 ∧ Row h3 o2 (O1.set (i / 8) (O1.getD (i / 8) 0 + d * 2 ^ (i % 8))) ∧ WrAt h3 bw (some rb) L := by
      intro H o2 ob O1 hw ho hob h1 h2 hlen hlt
      obtain ⟨h3, s1, s2, s3, s4⟩ := tx_set (v := O1.getD (i / 8) 0 + d * 2 ^ (i % 8)) (i := i / 8) hw ho hob h1 h2 (by omega)
      obtain ⟨e1, -, c1, q1, q2⟩ := row_base ho hob
      obtain ⟨c, wsl, w1, w2, w3, w4, w5, w6⟩ := hw
      obtain ⟨e2, -, c2, q3, q4⟩ := row_base w3 w4
      exact ⟨h3, wsl, c, w1, w2, e2, e1, w3, retV_of (idx67 (by omega)), retV_of (load5 q1 q2 (by omega)), retV_of (idx67 hil), retV_of (by rw [load5 q3 q4 hil, hgd]), retV_of (aBin_shl (by simp [IntKind.bits]; omega) (show d * 2 ^ (i % 8) < 256 by omega)),
        retV_of (aBin_add (show _ + _ < 256 by omega)), s1, s2, s3⟩
    by_cases h8 : i % 8 = 0
    · have hz : (i % 8 == 0) = true := by simp [h8]
      -- a new byte
      have hlast1 : (h.push (.cells 5 1 (T.ofList [byteV 0]) false false)).t.get h.n = some (.cells 5 1 (T.ofList [byteV 0]) false false) := push_get h _
      have hold : ∀ k, k < h.n → (h.push (.cells 5 1 (T.ofList [byteV 0]) false false)).t.get k = h.t.get k := fun k hk => by
        simp only [AH.push, T.get_set]; rw [if_neg (by omega)]
      have hblt : ∀ k, rowBase o = some k → k < h.n := fun k hk => (row_base ho hk).2.1
      obtain ⟨sl2, h2, q1, q2, q3, q4⟩ := append_row (xt := 67) (M := [0]) (ho.mono (h' := h.push (.cells 5 1 (T.ofList [byteV 0]) false false)) (by simp [AH.push]) (fun b hb' => hold b (hblt b hb'))) (piece_one (b := h.n) (cap := 1) (op' := false) 0 hlast1 (by simp [T.get_ofList])) (by simp) (by simp; omega)
      have hn2 : h.n + 1 ≤ h2.n := q3.n
      have hw0 := hw
      obtain ⟨c0, sl0, w1, w2, w3, w4, w5, w6⟩ := hw0
      have hrb : rb < h.n := (row_base w3 w4).2.1
      have hw2 : WrAt h2 bw (some rb) L := hw.mono (by omega) (by
        rw [q3.get bw (by simp [AH.push]; omega) (fun e => (hb bw e).1 rfl), hold bw w6]) (fun b hb' => by
        cases hb'
        rw [q3.get rb (by simp [AH.push]; omega) (fun e => (hb rb e).2 rfl), hold rb hrb])
      have hnb : (h.push (.cells 5 1 (T.ofList [byteV 0]) false false)).n = h.n + 1 := rfl
      rw [hnb] at q4
      obtain ⟨h3, wsl, c, a1, a2, a3, a4, a5, a6, a7, a8, a9, a10, a11, a12, a13, a14⟩ := common h2 sl2 (h.n + 1) (O ++ [0]) hw2 q2 q4 (by omega) (fun e => by cases e; omega) (by simp; omega) (by
        have : O.length = i / 8 := by omega
        rw [← this]; simp; exact hp1)
      subst a3
      subst a4
      have hs := txNew_C Post h h3 bw rb L.length i (h.n + 1) (O ++ [0]).length ((O ++ [0]).getD (i / 8) 0) d h2 o x (by
        obtain ⟨w1', w2'⟩ : h.t.get bw = some (.cells 290 1 c0 false false) ∧ c0.get 0 = some sl0 := ⟨w1, w2⟩
        have esl : sl0 = .slice (some (rb, 0)) L.length L.length true := (row_base w3 w4).1
        subst esl
        refine ⟨retV_of (load67 w1 w2), retV_of (row_len w3), retV_of (by rw [aBin_lss, decide_eq_true hil]), retV_of (aBin_rem (by decide)), retV_of (by rw [aBin_eql, hz]), ?_, retV_of (aBin_quo (by decide) (show i < 9223372036854775808 by omega)), retV_of (aBin_quo (by decide) (show i < 9223372036854775808 by omega)), a6, a7, retV_of (load67 a1 a2), a8, a9, retV_of (aBin_rem (by decide)), conv_345 h2 (by omega), a10, a11, a6, by rw [a12]; rfl, retV_of (aBin_add (show i + 1 < 9223372036854775808 by omega)), trivial⟩
        exact q1)
      obtain ⟨h', o', x', r1, r2⟩ := tx_loop Post hbits hLl rest (i + 1) h3 (.slice (some (h.n + 1, 0)) (O ++ [0]).length (O ++ [0]).length true) _ (gs (txNewR Post h h3 bw rb L.length i (h.n + 1) (O ++ [0]).length ((O ++ [0]).getD (i / 8) 0) d h2 o x)) hr' (by omega) a14 a13 (fun k hk => by rw [q4] at hk; cases hk; exact ⟨by omega, fun e => by cases e; omega⟩) (by simp; omega) (fun _ => by
        have e1 : (i + 1) / 8 = i / 8 := by omega
        have e2 : (i + 1) % 8 = 1 := by omega
        have e3 : O.length = i / 8 := by omega
        rw [e1, e2, ← e3]
        simp [h8]
        omega)
      refine ⟨h', o', x', SndL.step hs r1, ?_⟩
      · have : textStep O i d = (O ++ [0]).set (i / 8) ((O ++ [0]).getD (i / 8) 0 + d * 2 ^ (i % 8)) := by simp only [textStep, h8, if_true]
        rw [textFold, this]; exact r2
    · have hz : (i % 8 == 0) = false := by simp [h8]
      have hone : ∃ ob, rowBase o = some ob := by
        rcases ho with ⟨e, _⟩ | ⟨b, c', e, _⟩
        · rw [e] at hlen; simp at hlen; omega
        · exact ⟨b, by rw [e]; rfl⟩
      obtain ⟨ob, hob⟩ := hone
      obtain ⟨h3, wsl, c, a1, a2, a3, a4, a5, a6, a7, a8, a9, a10, a11, a12, a13, a14⟩ := common h o ob O hw ho hob (hb ob hob).1 (hb ob hob).2 (by omega) (hlast h8)
      subst a3
      have hs := txRound_C Post h h3 bw rb L.length i ob O.length (O.getD (i / 8) 0) d x (by
        refine ⟨retV_of (load67 a1 a2), retV_of (row_len a5), retV_of (by rw [aBin_lss, decide_eq_true hil]), retV_of (aBin_rem (by decide)), retV_of (by rw [aBin_eql, hz]), retV_of (aBin_quo (by decide) (show i < 9223372036854775808 by omega)), retV_of (aBin_quo (by decide) (show i < 9223372036854775808 by omega)), a6, a7, retV_of (load67 a1 a2), a8, a9, retV_of (aBin_rem (by decide)), conv_345 h (by omega), a10, a11, a6, by rw [a12]; rfl, retV_of (aBin_add (show i + 1 < 9223372036854775808 by omega)), trivial⟩)
      have hlt := hlast h8
      obtain ⟨h', o', x', r1, r2⟩ := tx_loop Post hbits hLl rest (i + 1) h3 o _ (gs (txRoundR Post h h3 bw rb L.length i ob O.length (O.getD (i / 8) 0) d x)) hr' (by omega) a14 a13 hb (by simp; omega) (fun hne => by
        have e1 : (i + 1) / 8 = i / 8 := by omega
        have e2 : (i + 1) % 8 = i % 8 + 1 := by omega
        have e3 : i / 8 < O.length := by omega
        rw [e1, e2, Nat.pow_succ]
        simp [e3]
        simp [e3] at hlt
        omega)
      rw [← a4] at hs
      refine ⟨h', o', x', SndL.step hs r1, ?_⟩
      · have : textStep O i d = O.set (i / 8) (O.getD (i / 8) 0 + d * 2 ^ (i % 8)) := by simp only [textStep, h8, if_false]
        rw [textFold, this]; exact r2
set_option maxRecDepth 100000 in
theorem text_snd (Post : Value → World → Prop) {h : AH} {bw : Nat} {base : Option Nat} {L : List Nat} (hw : WrAt h bw base L) (hbits : ∀ b ∈ L, b ≤ 1) (hL : L.length < 2 ^ 38) :
    ∃ h', SndF Q Post 184 [.ptr (some (bw, 0))] h none (.str ((textFold 0 [] L).map UInt8.ofNat)) h' none := by
  let x0 : Nat → AV := fun _ => .tuple []
  have hA := canonC (SndC.run TabsOk.nil (txA_run Post h bw x0) trivial) (txA_slots Post h bw x0)
  let x1 := gs (txAR Post h bw x0)
  have hB := canonC (SndC.run TabsOk.nil (txB_run Post h bw x1) trivial) (txB_slots Post h bw x1)
  let x2 := gs (txBR Post h bw x1)
  have hC := canonC (SndC.run TabsOk.nil (txC_run Post h bw (.slice none 0 0 false) x2) trivial) (txC_slots Post h bw (.slice none 0 0 false) x2)
  let x3 := gs (txCR Post h bw (.slice none 0 0 false) x2)
  obtain ⟨h', o', x', r1, r2⟩ := tx_loop Post (bw := bw) (base := base) (L := L) hbits hL L 0 h (.slice none 0 0 false) [] x3 rfl (by omega) hw (.inl ⟨rfl, rfl⟩) (fun k hk => by cases hk) rfl (fun e => absurd rfl e)
  have hD := SndC.run TabsOk.nil (txD_run Post h' bw o' L.length ((textFold 0 [] L).map UInt8.ofNat) x') ⟨conv_67_9 r2, trivial⟩
  refine ⟨h', ?_⟩
  have body : SndC Q Post (bodyOf Tryz.f184) { t := T.ofList [.ptr (some (bw, 0))], n := 43, h := h, s := none } .ret _ :=
    enterC (.seq hA (.seq hB (.seq (.seq hC (.blockExit (.loop r1))) hD))) (by rfl)
  exact SndF.of (by kernel_rfl) Tryz.func184 rfl body (.inl rfl) (txD_res Post h' bw o' L.length ((textFold 0 [] L).map UInt8.ofNat) x')
end
end Go.Cx

/-
  THE DOCUMENT's NUMBERS OF FOUR BYTES.
-/
namespace Go.Cx
noncomputable section
open Go Go.Proofs Go.Conc
def fxAOv : Nat → Nat → Option Ov
  | _, _ => none
noncomputable def fxAR (Post : Value → World → Prop) (h : AH) (n : Nat) (x : Nat → AV) : Option (Ex × AS × List Prop) := E Post [] fxAOv (cfst (bodyOf Tryz.f103)) { t := T.ofList (.int .i64 (.ofNat n) :: .int .i64 (.ofNat 4) :: x 2 :: x 3 :: x 4 :: x 5 :: x 6 :: x 7 :: x 8 :: x 9 :: x 10 :: x 11 :: x 12 :: x 13 :: x 14 :: x 15 :: x 16 :: x 17 :: x 18 :: x 19 :: x 20 :: x 21 :: x 22 :: x 23 :: x 24 :: x 25 :: x 26 :: x 27 :: x 28 :: x 29 :: x 30 :: x 31 :: []), n := 32, h := h, s := none }
theorem fxA_run (Post : Value → World → Prop) (h : AH) (n : Nat) (x : Nat → AV) : fxAR Post h n x = some (.normal, { t := tOf (fxAR Post h n x), n := 32, h := h, s := none },
    []) := by kernel_rfl
theorem fxA_slots (Post : Value → World → Prop) (h : AH) (n : Nat) (x : Nat → AV) : slots 32 (tOf (fxAR Post h n x)) = (.int .i64 (.ofNat n) :: .int .i64 (.ofNat 4) :: gs (fxAR Post h n x) 2 :: gs (fxAR Post h n x) 3 :: gs (fxAR Post h n x) 4 :: gs (fxAR Post h n x) 5 :: gs (fxAR Post h n x) 6 :: gs (fxAR Post h n x) 7 :: gs (fxAR Post h n x) 8 :: gs (fxAR Post h n x) 9 :: gs (fxAR Post h n x) 10 :: gs (fxAR Post h n x) 11 :: gs (fxAR Post h n x) 12 :: gs (fxAR Post h n x) 13 :: gs (fxAR Post h n x) 14 :: gs (fxAR Post h n x) 15 :: gs (fxAR Post h n x) 16 :: gs (fxAR Post h n x) 17 :: gs (fxAR Post h n x) 18 :: gs (fxAR Post h n x) 19 :: gs (fxAR Post h n x) 20 :: gs (fxAR Post h n x) 21 :: gs (fxAR Post h n x) 22 :: gs (fxAR Post h n x) 23 :: gs (fxAR Post h n x) 24 :: gs (fxAR Post h n x) 25 :: gs (fxAR Post h n x) 26 :: gs (fxAR Post h n x) 27 :: gs (fxAR Post h n x) 28 :: gs (fxAR Post h n x) 29 :: gs (fxAR Post h n x) 30 :: gs (fxAR Post h n x) 31 :: []) := by kernel_rfl
def fxBOv (h : AH) (_n : Nat) : Nat → Nat → Option Ov
  | 1, 5 => some (.val (.bool false) h)
  | _, _ => none
noncomputable def fxBR (Post : Value → World → Prop) (h : AH) (n : Nat) (x : Nat → AV) : Option (Ex × AS × List Prop) := E Post [] (fxBOv h n) (cfst (csnd (bodyOf Tryz.f103))) { t := T.ofList (.int .i64 (.ofNat n) :: .int .i64 (.ofNat 4) :: x 2 :: x 3 :: x 4 :: x 5 :: x 6 :: x 7 :: x 8 :: x 9 :: x 10 :: x 11 :: x 12 :: x 13 :: x 14 :: x 15 :: x 16 :: x 17 :: x 18 :: x 19 :: x 20 :: x 21 :: x 22 :: x 23 :: x 24 :: x 25 :: x 26 :: x 27 :: x 28 :: x 29 :: x 30 :: x 31 :: []), n := 32, h := h, s := none }
theorem fxB_run (Post : Value → World → Prop) (h : AH) (n : Nat) (x : Nat → AV) : fxBR Post h n x = some (.normal, { t := tOf (fxBR Post h n x), n := 32, h := h, s := none },
    [retV h (aBin Q .lss 3 true (.int .i64 (.ofNat n)) (.int .i64 (.ofNat 0))) = some (.val (.bool false), h)]) := by kernel_rfl
theorem fxB_slots (Post : Value → World → Prop) (h : AH) (n : Nat) (x : Nat → AV) : slots 32 (tOf (fxBR Post h n x)) = (.int .i64 (.ofNat n) :: .int .i64 (.ofNat 4) :: gs (fxBR Post h n x) 2 :: gs (fxBR Post h n x) 3 :: gs (fxBR Post h n x) 4 :: gs (fxBR Post h n x) 5 :: gs (fxBR Post h n x) 6 :: gs (fxBR Post h n x) 7 :: gs (fxBR Post h n x) 8 :: gs (fxBR Post h n x) 9 :: gs (fxBR Post h n x) 10 :: gs (fxBR Post h n x) 11 :: gs (fxBR Post h n x) 12 :: gs (fxBR Post h n x) 13 :: gs (fxBR Post h n x) 14 :: gs (fxBR Post h n x) 15 :: gs (fxBR Post h n x) 16 :: gs (fxBR Post h n x) 17 :: gs (fxBR Post h n x) 18 :: gs (fxBR Post h n x) 19 :: gs (fxBR Post h n x) 20 :: gs (fxBR Post h n x) 21 :: gs (fxBR Post h n x) 22 :: gs (fxBR Post h n x) 23 :: gs (fxBR Post h n x) 24 :: gs (fxBR Post h n x) 25 :: gs (fxBR Post h n x) 26 :: gs (fxBR Post h n x) 27 :: gs (fxBR Post h n x) 28 :: gs (fxBR Post h n x) 29 :: gs (fxBR Post h n x) 30 :: gs (fxBR Post h n x) 31 :: []) := by kernel_rfl
theorem fxB_def (Post : Value → World → Prop) (h : AH) (n : Nat) (x : Nat → AV) : fxBR Post h n x = E Post [] (fxBOv h n) (cfst (csnd (bodyOf Tryz.f103))) { t := T.ofList (.int .i64 (.ofNat n) :: .int .i64 (.ofNat 4) :: x 2 :: x 3 :: x 4 :: x 5 :: x 6 :: x 7 :: x 8 :: x 9 :: x 10 :: x 11 :: x 12 :: x 13 :: x 14 :: x 15 :: x 16 :: x 17 :: x 18 :: x 19 :: x 20 :: x 21 :: x 22 :: x 23 :: x 24 :: x 25 :: x 26 :: x 27 :: x 28 :: x 29 :: x 30 :: x 31 :: []), n := 32, h := h, s := none } := by kernel_rfl
set_option maxRecDepth 100000 in
theorem fxB_C (Post : Value → World → Prop) (h : AH) (n : Nat) (x : Nat → AV) (hp : All [retV h (aBin Q .lss 3 true (.int .i64 (.ofNat n)) (.int .i64 (.ofNat 0))) = some (.val (.bool false), h)]) : SndC Q Post (cfst (csnd (bodyOf Tryz.f103))) { t := T.ofList (.int .i64 (.ofNat n) :: .int .i64 (.ofNat 4) :: x 2 :: x 3 :: x 4 :: x 5 :: x 6 :: x 7 :: x 8 :: x 9 :: x 10 :: x 11 :: x 12 :: x 13 :: x 14 :: x 15 :: x 16 :: x 17 :: x 18 :: x 19 :: x 20 :: x 21 :: x 22 :: x 23 :: x 24 :: x 25 :: x 26 :: x 27 :: x 28 :: x 29 :: x 30 :: x 31 :: []), n := 32, h := h, s := none } (.normal) { t := T.ofList (.int .i64 (.ofNat n) :: .int .i64 (.ofNat 4) :: gs (fxBR Post h n x) 2 :: gs (fxBR Post h n x) 3 :: gs (fxBR Post h n x) 4 :: gs (fxBR Post h n x) 5 :: gs (fxBR Post h n x) 6 :: gs (fxBR Post h n x) 7 :: gs (fxBR Post h n x) 8 :: gs (fxBR Post h n x) 9 :: gs (fxBR Post h n x) 10 :: gs (fxBR Post h n x) 11 :: gs (fxBR Post h n x) 12 :: gs (fxBR Post h n x) 13 :: gs (fxBR Post h n x) 14 :: gs (fxBR Post h n x) 15 :: gs (fxBR Post h n x) 16 :: gs (fxBR Post h n x) 17 :: gs (fxBR Post h n x) 18 :: gs (fxBR Post h n x) 19 :: gs (fxBR Post h n x) 20 :: gs (fxBR Post h n x) 21 :: gs (fxBR Post h n x) 22 :: gs (fxBR Post h n x) 23 :: gs (fxBR Post h n x) 24 :: gs (fxBR Post h n x) 25 :: gs (fxBR Post h n x) 26 :: gs (fxBR Post h n x) 27 :: gs (fxBR Post h n x) 28 :: gs (fxBR Post h n x) 29 :: gs (fxBR Post h n x) 30 :: gs (fxBR Post h n x) 31 :: []), n := 32, h := h, s := none } :=
  canonC (runE TabsOk.nil (fxB_def Post h n x) (fxB_run Post h n x) hp) (fxB_slots Post h n x)
def fxCOv : Nat → Nat → Option Ov
  | _, _ => none
noncomputable def fxCR (Post : Value → World → Prop) (h : AH) (n : Nat) (x : Nat → AV) : Option (Ex × AS × List Prop) := E Post [] fxCOv (cfst (csnd (csnd (bodyOf Tryz.f103)))) { t := T.ofList (.int .i64 (.ofNat n) :: .int .i64 (.ofNat 4) :: x 2 :: x 3 :: x 4 :: x 5 :: x 6 :: x 7 :: x 8 :: x 9 :: x 10 :: x 11 :: x 12 :: x 13 :: x 14 :: x 15 :: x 16 :: x 17 :: x 18 :: x 19 :: x 20 :: x 21 :: x 22 :: x 23 :: x 24 :: x 25 :: x 26 :: x 27 :: x 28 :: x 29 :: x 30 :: x 31 :: []), n := 32, h := h, s := none }
theorem fxC_run (Post : Value → World → Prop) (h : AH) (n : Nat) (x : Nat → AV) : fxCR Post h n x = some (.normal, { t := tOf (fxCR Post h n x), n := 32, h := h, s := none },
    []) := by kernel_rfl
theorem fxC_slots (Post : Value → World → Prop) (h : AH) (n : Nat) (x : Nat → AV) : slots 32 (tOf (fxCR Post h n x)) = (.int .i64 (.ofNat n) :: .int .i64 (.ofNat 4) :: gs (fxCR Post h n x) 2 :: gs (fxCR Post h n x) 3 :: gs (fxCR Post h n x) 4 :: gs (fxCR Post h n x) 5 :: .slice none 0 0 false :: gs (fxCR Post h n x) 7 :: gs (fxCR Post h n x) 8 :: gs (fxCR Post h n x) 9 :: gs (fxCR Post h n x) 10 :: gs (fxCR Post h n x) 11 :: gs (fxCR Post h n x) 12 :: gs (fxCR Post h n x) 13 :: gs (fxCR Post h n x) 14 :: gs (fxCR Post h n x) 15 :: gs (fxCR Post h n x) 16 :: gs (fxCR Post h n x) 17 :: gs (fxCR Post h n x) 18 :: gs (fxCR Post h n x) 19 :: gs (fxCR Post h n x) 20 :: gs (fxCR Post h n x) 21 :: gs (fxCR Post h n x) 22 :: gs (fxCR Post h n x) 23 :: gs (fxCR Post h n x) 24 :: gs (fxCR Post h n x) 25 :: gs (fxCR Post h n x) 26 :: gs (fxCR Post h n x) 27 :: gs (fxCR Post h n x) 28 :: gs (fxCR Post h n x) 29 :: gs (fxCR Post h n x) 30 :: gs (fxCR Post h n x) 31 :: []) := by kernel_rfl
def fxEOv : Nat → Nat → Option Ov
  | _, _ => none
noncomputable def fxER (Post : Value → World → Prop) (h : AH) (n : Nat) (o : AV) (x : Nat → AV) : Option (Ex × AS × List Prop) := E Post [] fxEOv (cfst (cfst (csnd (csnd (csnd (bodyOf Tryz.f103)))))) { t := T.ofList (.int .i64 (.ofNat n) :: .int .i64 (.ofNat 4) :: x 2 :: x 3 :: x 4 :: x 5 :: o :: x 7 :: x 8 :: x 9 :: x 10 :: x 11 :: x 12 :: x 13 :: x 14 :: x 15 :: x 16 :: x 17 :: x 18 :: x 19 :: x 20 :: x 21 :: x 22 :: x 23 :: x 24 :: x 25 :: x 26 :: x 27 :: x 28 :: x 29 :: x 30 :: x 31 :: []), n := 32, h := h, s := none }
theorem fxE_run (Post : Value → World → Prop) (h : AH) (n : Nat) (o : AV) (x : Nat → AV) : fxER Post h n o x = some (.normal, { t := tOf (fxER Post h n o x), n := 32, h := h, s := none },
    []) := by kernel_rfl
theorem fxE_slots (Post : Value → World → Prop) (h : AH) (n : Nat) (o : AV) (x : Nat → AV) : slots 32 (tOf (fxER Post h n o x)) = (.int .i64 (.ofNat n) :: .int .i64 (.ofNat 4) :: gs (fxER Post h n o x) 2 :: gs (fxER Post h n o x) 3 :: gs (fxER Post h n o x) 4 :: gs (fxER Post h n o x) 5 :: o :: .int .i64 (.ofNat 0) :: gs (fxER Post h n o x) 8 :: gs (fxER Post h n o x) 9 :: gs (fxER Post h n o x) 10 :: gs (fxER Post h n o x) 11 :: gs (fxER Post h n o x) 12 :: gs (fxER Post h n o x) 13 :: gs (fxER Post h n o x) 14 :: gs (fxER Post h n o x) 15 :: gs (fxER Post h n o x) 16 :: gs (fxER Post h n o x) 17 :: gs (fxER Post h n o x) 18 :: gs (fxER Post h n o x) 19 :: gs (fxER Post h n o x) 20 :: gs (fxER Post h n o x) 21 :: gs (fxER Post h n o x) 22 :: gs (fxER Post h n o x) 23 :: gs (fxER Post h n o x) 24 :: gs (fxER Post h n o x) 25 :: gs (fxER Post h n o x) 26 :: gs (fxER Post h n o x) 27 :: gs (fxER Post h n o x) 28 :: gs (fxER Post h n o x) 29 :: gs (fxER Post h n o x) 30 :: gs (fxER Post h n o x) 31 :: []) := by kernel_rfl
noncomputable abbrev fxBody : Code := (cinn (cinn (csnd (cfst (csnd (csnd (csnd (bodyOf Tryz.f103))))))))
def fxRoundOv (h : AH) (h2 : AH) (n : Nat) (_o : AV) (o2 : AV) (i : Nat) : Nat → Nat → Option Ov
  | 5, 2 => some (.val (.bool true) h)
  | 7, 2 => some (.val (.int .i64 (.ofNat (n % 256))) h)
  | 7, 3 => some (.val (byteV (n % 256)) h)
  | 7, 5 => some (.val o2 h2)
  | 8, 1 => some (.val (.int .i64 (.ofNat (n / 256))) h2)
  | 6, 1 => some (.val (.int .i64 (.ofNat (i + 1))) h2)
  | _, _ => none
noncomputable def fxRoundR (Post : Value → World → Prop) (h : AH) (h2 : AH) (n : Nat) (o : AV) (o2 : AV) (i : Nat) (x : Nat → AV) : Option (Ex × AS × List Prop) := E Post [] (fxRoundOv h h2 n o o2 i) fxBody { t := T.ofList (.int .i64 (.ofNat n) :: .int .i64 (.ofNat 4) :: x 2 :: x 3 :: x 4 :: x 5 :: o :: .int .i64 (.ofNat i) :: x 8 :: x 9 :: x 10 :: x 11 :: x 12 :: x 13 :: x 14 :: x 15 :: x 16 :: x 17 :: x 18 :: x 19 :: x 20 :: x 21 :: x 22 :: x 23 :: x 24 :: x 25 :: x 26 :: x 27 :: x 28 :: x 29 :: x 30 :: x 31 :: []), n := 32, h := h, s := none }
theorem fxRound_run (Post : Value → World → Prop) (h : AH) (h2 : AH) (n : Nat) (o : AV) (o2 : AV) (i : Nat) (x : Nat → AV) : fxRoundR Post h h2 n o o2 i x = some (.normal, { t := tOf (fxRoundR Post h h2 n o o2 i x), n := 32, h := h2, s := none },
    [retV h (aBin Q .lss 3 false (.int .i64 (.ofNat i)) (.int .i64 (.ofNat 4))) = some (.val (.bool true), h),
     retV h (aBin Q .rem 3 true (.int .i64 (.ofNat n)) (.int .i64 (.ofNat 256))) = some (.val (.int .i64 (.ofNat (n % 256))), h),
     aConvert Q h 3 5 (.int .i64 (.ofNat (n % 256))) = some (.val (byteV (n % 256)), h),
     aAppend Q (h.push (.cells 5 1 (T.ofList [byteV (n % 256)]) false false)) [67, 67] [o, .slice (some (h.n, 0)) 1 1 false] = some (.val o2, h2),
     retV h2 (aBin Q .quo 3 true (.int .i64 (.ofNat n)) (.int .i64 (.ofNat 256))) = some (.val (.int .i64 (.ofNat (n / 256))), h2),
     retV h2 (aBin Q .add 3 true (.int .i64 (.ofNat i)) (.int .i64 (.ofNat 1))) = some (.val (.int .i64 (.ofNat (i + 1))), h2)]) := by kernel_rfl
theorem fxRound_slots (Post : Value → World → Prop) (h : AH) (h2 : AH) (n : Nat) (o : AV) (o2 : AV) (i : Nat) (x : Nat → AV) : slots 32 (tOf (fxRoundR Post h h2 n o o2 i x)) = (.int .i64 (.ofNat (n / 256)) :: .int .i64 (.ofNat 4) :: gs (fxRoundR Post h h2 n o o2 i x) 2 :: gs (fxRoundR Post h h2 n o o2 i x) 3 :: gs (fxRoundR Post h h2 n o o2 i x) 4 :: gs (fxRoundR Post h h2 n o o2 i x) 5 :: o2 :: .int .i64 (.ofNat (i + 1)) :: gs (fxRoundR Post h h2 n o o2 i x) 8 :: gs (fxRoundR Post h h2 n o o2 i x) 9 :: gs (fxRoundR Post h h2 n o o2 i x) 10 :: gs (fxRoundR Post h h2 n o o2 i x) 11 :: gs (fxRoundR Post h h2 n o o2 i x) 12 :: gs (fxRoundR Post h h2 n o o2 i x) 13 :: gs (fxRoundR Post h h2 n o o2 i x) 14 :: gs (fxRoundR Post h h2 n o o2 i x) 15 :: gs (fxRoundR Post h h2 n o o2 i x) 16 :: gs (fxRoundR Post h h2 n o o2 i x) 17 :: gs (fxRoundR Post h h2 n o o2 i x) 18 :: gs (fxRoundR Post h h2 n o o2 i x) 19 :: gs (fxRoundR Post h h2 n o o2 i x) 20 :: gs (fxRoundR Post h h2 n o o2 i x) 21 :: gs (fxRoundR Post h h2 n o o2 i x) 22 :: gs (fxRoundR Post h h2 n o o2 i x) 23 :: gs (fxRoundR Post h h2 n o o2 i x) 24 :: gs (fxRoundR Post h h2 n o o2 i x) 25 :: gs (fxRoundR Post h h2 n o o2 i x) 26 :: gs (fxRoundR Post h h2 n o o2 i x) 27 :: gs (fxRoundR Post h h2 n o o2 i x) 28 :: gs (fxRoundR Post h h2 n o o2 i x) 29 :: gs (fxRoundR Post h h2 n o o2 i x) 30 :: gs (fxRoundR Post h h2 n o o2 i x) 31 :: []) := by kernel_rfl
theorem fxRound_def (Post : Value → World → Prop) (h : AH) (h2 : AH) (n : Nat) (o : AV) (o2 : AV) (i : Nat) (x : Nat → AV) : fxRoundR Post h h2 n o o2 i x = E Post [] (fxRoundOv h h2 n o o2 i) fxBody { t := T.ofList (.int .i64 (.ofNat n) :: .int .i64 (.ofNat 4) :: x 2 :: x 3 :: x 4 :: x 5 :: o :: .int .i64 (.ofNat i) :: x 8 :: x 9 :: x 10 :: x 11 :: x 12 :: x 13 :: x 14 :: x 15 :: x 16 :: x 17 :: x 18 :: x 19 :: x 20 :: x 21 :: x 22 :: x 23 :: x 24 :: x 25 :: x 26 :: x 27 :: x 28 :: x 29 :: x 30 :: x 31 :: []), n := 32, h := h, s := none } := by kernel_rfl
set_option maxRecDepth 100000 in
theorem fxRound_C (Post : Value → World → Prop) (h : AH) (h2 : AH) (n : Nat) (o : AV) (o2 : AV) (i : Nat) (x : Nat → AV) (hp : All [retV h (aBin Q .lss 3 false (.int .i64 (.ofNat i)) (.int .i64 (.ofNat 4))) = some (.val (.bool true), h),
     retV h (aBin Q .rem 3 true (.int .i64 (.ofNat n)) (.int .i64 (.ofNat 256))) = some (.val (.int .i64 (.ofNat (n % 256))), h),
     aConvert Q h 3 5 (.int .i64 (.ofNat (n % 256))) = some (.val (byteV (n % 256)), h),
     aAppend Q (h.push (.cells 5 1 (T.ofList [byteV (n % 256)]) false false)) [67, 67] [o, .slice (some (h.n, 0)) 1 1 false] = some (.val o2, h2),
     retV h2 (aBin Q .quo 3 true (.int .i64 (.ofNat n)) (.int .i64 (.ofNat 256))) = some (.val (.int .i64 (.ofNat (n / 256))), h2),
     retV h2 (aBin Q .add 3 true (.int .i64 (.ofNat i)) (.int .i64 (.ofNat 1))) = some (.val (.int .i64 (.ofNat (i + 1))), h2)]) : SndC Q Post fxBody { t := T.ofList (.int .i64 (.ofNat n) :: .int .i64 (.ofNat 4) :: x 2 :: x 3 :: x 4 :: x 5 :: o :: .int .i64 (.ofNat i) :: x 8 :: x 9 :: x 10 :: x 11 :: x 12 :: x 13 :: x 14 :: x 15 :: x 16 :: x 17 :: x 18 :: x 19 :: x 20 :: x 21 :: x 22 :: x 23 :: x 24 :: x 25 :: x 26 :: x 27 :: x 28 :: x 29 :: x 30 :: x 31 :: []), n := 32, h := h, s := none } (.normal) { t := T.ofList (.int .i64 (.ofNat (n / 256)) :: .int .i64 (.ofNat 4) :: gs (fxRoundR Post h h2 n o o2 i x) 2 :: gs (fxRoundR Post h h2 n o o2 i x) 3 :: gs (fxRoundR Post h h2 n o o2 i x) 4 :: gs (fxRoundR Post h h2 n o o2 i x) 5 :: o2 :: .int .i64 (.ofNat (i + 1)) :: gs (fxRoundR Post h h2 n o o2 i x) 8 :: gs (fxRoundR Post h h2 n o o2 i x) 9 :: gs (fxRoundR Post h h2 n o o2 i x) 10 :: gs (fxRoundR Post h h2 n o o2 i x) 11 :: gs (fxRoundR Post h h2 n o o2 i x) 12 :: gs (fxRoundR Post h h2 n o o2 i x) 13 :: gs (fxRoundR Post h h2 n o o2 i x) 14 :: gs (fxRoundR Post h h2 n o o2 i x) 15 :: gs (fxRoundR Post h h2 n o o2 i x) 16 :: gs (fxRoundR Post h h2 n o o2 i x) 17 :: gs (fxRoundR Post h h2 n o o2 i x) 18 :: gs (fxRoundR Post h h2 n o o2 i x) 19 :: gs (fxRoundR Post h h2 n o o2 i x) 20 :: gs (fxRoundR Post h h2 n o o2 i x) 21 :: gs (fxRoundR Post h h2 n o o2 i x) 22 :: gs (fxRoundR Post h h2 n o o2 i x) 23 :: gs (fxRoundR Post h h2 n o o2 i x) 24 :: gs (fxRoundR Post h h2 n o o2 i x) 25 :: gs (fxRoundR Post h h2 n o o2 i x) 26 :: gs (fxRoundR Post h h2 n o o2 i x) 27 :: gs (fxRoundR Post h h2 n o o2 i x) 28 :: gs (fxRoundR Post h h2 n o o2 i x) 29 :: gs (fxRoundR Post h h2 n o o2 i x) 30 :: gs (fxRoundR Post h h2 n o o2 i x) 31 :: []), n := 32, h := h2, s := none } :=
  canonC (runE TabsOk.nil (fxRound_def Post h h2 n o o2 i x) (fxRound_run Post h h2 n o o2 i x) hp) (fxRound_slots Post h h2 n o o2 i x)
def fxLastOv (h : AH) (_n : Nat) (_o : AV) (_i : Nat) : Nat → Nat → Option Ov
  | 5, 2 => some (.val (.bool false) h)
  | _, _ => none
noncomputable def fxLastR (Post : Value → World → Prop) (h : AH) (n : Nat) (o : AV) (i : Nat) (x : Nat → AV) : Option (Ex × AS × List Prop) := E Post [] (fxLastOv h n o i) fxBody { t := T.ofList (.int .i64 (.ofNat n) :: .int .i64 (.ofNat 4) :: x 2 :: x 3 :: x 4 :: x 5 :: o :: .int .i64 (.ofNat i) :: x 8 :: x 9 :: x 10 :: x 11 :: x 12 :: x 13 :: x 14 :: x 15 :: x 16 :: x 17 :: x 18 :: x 19 :: x 20 :: x 21 :: x 22 :: x 23 :: x 24 :: x 25 :: x 26 :: x 27 :: x 28 :: x 29 :: x 30 :: x 31 :: []), n := 32, h := h, s := none }
theorem fxLast_run (Post : Value → World → Prop) (h : AH) (n : Nat) (o : AV) (i : Nat) (x : Nat → AV) : fxLastR Post h n o i x = some (.exit 0, { t := tOf (fxLastR Post h n o i x), n := 32, h := h, s := none },
    [retV h (aBin Q .lss 3 false (.int .i64 (.ofNat i)) (.int .i64 (.ofNat 4))) = some (.val (.bool false), h)]) := by kernel_rfl
theorem fxLast_slots (Post : Value → World → Prop) (h : AH) (n : Nat) (o : AV) (i : Nat) (x : Nat → AV) : slots 32 (tOf (fxLastR Post h n o i x)) = (.int .i64 (.ofNat n) :: .int .i64 (.ofNat 4) :: gs (fxLastR Post h n o i x) 2 :: gs (fxLastR Post h n o i x) 3 :: gs (fxLastR Post h n o i x) 4 :: gs (fxLastR Post h n o i x) 5 :: o :: .int .i64 (.ofNat i) :: gs (fxLastR Post h n o i x) 8 :: gs (fxLastR Post h n o i x) 9 :: gs (fxLastR Post h n o i x) 10 :: gs (fxLastR Post h n o i x) 11 :: gs (fxLastR Post h n o i x) 12 :: gs (fxLastR Post h n o i x) 13 :: gs (fxLastR Post h n o i x) 14 :: gs (fxLastR Post h n o i x) 15 :: gs (fxLastR Post h n o i x) 16 :: gs (fxLastR Post h n o i x) 17 :: gs (fxLastR Post h n o i x) 18 :: gs (fxLastR Post h n o i x) 19 :: gs (fxLastR Post h n o i x) 20 :: gs (fxLastR Post h n o i x) 21 :: gs (fxLastR Post h n o i x) 22 :: gs (fxLastR Post h n o i x) 23 :: gs (fxLastR Post h n o i x) 24 :: gs (fxLastR Post h n o i x) 25 :: gs (fxLastR Post h n o i x) 26 :: gs (fxLastR Post h n o i x) 27 :: gs (fxLastR Post h n o i x) 28 :: gs (fxLastR Post h n o i x) 29 :: gs (fxLastR Post h n o i x) 30 :: gs (fxLastR Post h n o i x) 31 :: []) := by kernel_rfl
theorem fxLast_def (Post : Value → World → Prop) (h : AH) (n : Nat) (o : AV) (i : Nat) (x : Nat → AV) : fxLastR Post h n o i x = E Post [] (fxLastOv h n o i) fxBody { t := T.ofList (.int .i64 (.ofNat n) :: .int .i64 (.ofNat 4) :: x 2 :: x 3 :: x 4 :: x 5 :: o :: .int .i64 (.ofNat i) :: x 8 :: x 9 :: x 10 :: x 11 :: x 12 :: x 13 :: x 14 :: x 15 :: x 16 :: x 17 :: x 18 :: x 19 :: x 20 :: x 21 :: x 22 :: x 23 :: x 24 :: x 25 :: x 26 :: x 27 :: x 28 :: x 29 :: x 30 :: x 31 :: []), n := 32, h := h, s := none } := by kernel_rfl
set_option maxRecDepth 100000 in
theorem fxLast_C (Post : Value → World → Prop) (h : AH) (n : Nat) (o : AV) (i : Nat) (x : Nat → AV) (hp : All [retV h (aBin Q .lss 3 false (.int .i64 (.ofNat i)) (.int .i64 (.ofNat 4))) = some (.val (.bool false), h)]) : SndC Q Post fxBody { t := T.ofList (.int .i64 (.ofNat n) :: .int .i64 (.ofNat 4) :: x 2 :: x 3 :: x 4 :: x 5 :: o :: .int .i64 (.ofNat i) :: x 8 :: x 9 :: x 10 :: x 11 :: x 12 :: x 13 :: x 14 :: x 15 :: x 16 :: x 17 :: x 18 :: x 19 :: x 20 :: x 21 :: x 22 :: x 23 :: x 24 :: x 25 :: x 26 :: x 27 :: x 28 :: x 29 :: x 30 :: x 31 :: []), n := 32, h := h, s := none } (.exit 0) { t := T.ofList (.int .i64 (.ofNat n) :: .int .i64 (.ofNat 4) :: gs (fxLastR Post h n o i x) 2 :: gs (fxLastR Post h n o i x) 3 :: gs (fxLastR Post h n o i x) 4 :: gs (fxLastR Post h n o i x) 5 :: o :: .int .i64 (.ofNat i) :: gs (fxLastR Post h n o i x) 8 :: gs (fxLastR Post h n o i x) 9 :: gs (fxLastR Post h n o i x) 10 :: gs (fxLastR Post h n o i x) 11 :: gs (fxLastR Post h n o i x) 12 :: gs (fxLastR Post h n o i x) 13 :: gs (fxLastR Post h n o i x) 14 :: gs (fxLastR Post h n o i x) 15 :: gs (fxLastR Post h n o i x) 16 :: gs (fxLastR Post h n o i x) 17 :: gs (fxLastR Post h n o i x) 18 :: gs (fxLastR Post h n o i x) 19 :: gs (fxLastR Post h n o i x) 20 :: gs (fxLastR Post h n o i x) 21 :: gs (fxLastR Post h n o i x) 22 :: gs (fxLastR Post h n o i x) 23 :: gs (fxLastR Post h n o i x) 24 :: gs (fxLastR Post h n o i x) 25 :: gs (fxLastR Post h n o i x) 26 :: gs (fxLastR Post h n o i x) 27 :: gs (fxLastR Post h n o i x) 28 :: gs (fxLastR Post h n o i x) 29 :: gs (fxLastR Post h n o i x) 30 :: gs (fxLastR Post h n o i x) 31 :: []), n := 32, h := h, s := none } :=
  canonC (runE TabsOk.nil (fxLast_def Post h n o i x) (fxLast_run Post h n o i x) hp) (fxLast_slots Post h n o i x)
def fxDOv (h : AH) (_n : Nat) (_o : AV) (_i : Nat) (l : List UInt8) : Nat → Nat → Option Ov
  | 9, 1 => some (.val (.bool false) h)
  | 11, 1 => some (.val (.str l) h)
  | _, _ => none
noncomputable def fxDR (Post : Value → World → Prop) (h : AH) (n : Nat) (o : AV) (i : Nat) (l : List UInt8) (x : Nat → AV) : Option (Ex × AS × List Prop) := E Post [] (fxDOv h n o i l) (csnd (csnd (csnd (csnd (bodyOf Tryz.f103))))) { t := T.ofList (.int .i64 (.ofNat n) :: .int .i64 (.ofNat 4) :: x 2 :: x 3 :: x 4 :: x 5 :: o :: .int .i64 (.ofNat i) :: x 8 :: x 9 :: x 10 :: x 11 :: x 12 :: x 13 :: x 14 :: x 15 :: x 16 :: x 17 :: x 18 :: x 19 :: x 20 :: x 21 :: x 22 :: x 23 :: x 24 :: x 25 :: x 26 :: x 27 :: x 28 :: x 29 :: x 30 :: x 31 :: []), n := 32, h := h, s := none }
theorem fxD_run (Post : Value → World → Prop) (h : AH) (n : Nat) (o : AV) (i : Nat) (l : List UInt8) (x : Nat → AV) : fxDR Post h n o i l x = some (.ret, { t := tOf (fxDR Post h n o i l x), n := 32, h := h, s := none },
    [retV h (aBin Q .gtr 3 true (.int .i64 (.ofNat n)) (.int .i64 (.ofNat 0))) = some (.val (.bool false), h),
     aConvert Q h 67 9 o = some (.val (.str l), h)]) := by kernel_rfl
theorem fxD_res (Post : Value → World → Prop) (h : AH) (n : Nat) (o : AV) (i : Nat) (l : List UInt8) (x : Nat → AV) : aResults Q Tryz.f103 { t := tOf (fxDR Post h n o i l x), n := 32, h := h, s := none } = some (.tuple [.str l, .int .i64 (.ofNat 0)]) := by kernel_rfl

noncomputable abbrev fxSt (h : AH) (n : Nat) (o : AV) (i : Nat) (x : Nat → AV) : AS := { t := T.ofList (.int .i64 (.ofNat n) :: .int .i64 (.ofNat 4) :: x 2 :: x 3 :: x 4 :: x 5 :: o :: .int .i64 (.ofNat i) :: x 8 :: x 9 :: x 10 :: x 11 :: x 12 :: x 13 :: x 14 :: x 15 :: x 16 :: x 17 :: x 18 :: x 19 :: x 20 :: x 21 :: x 22 :: x 23 :: x 24 :: x 25 :: x 26 :: x 27 :: x 28 :: x 29 :: x 30 :: x 31 :: []), n := 32, h := h, s := none }
def bytesOf : Nat → Nat → List Nat
  | 0, _ => []
  | m + 1, n => (n % 256) :: bytesOf m (n / 256)
/-- A byte is put behind a row. -/
theorem row_grow {h : AH} {o : AV} {O : List Nat} (x : Nat) (ho : Row h o O) (hL : O.length < 2 ^ 39) :
    ∃ o2 h2, aAppend Q (h.push (.cells 5 1 (T.ofList [byteV x]) false false)) [67, 67] [o, .slice (some (h.n, 0)) 1 1 false] = some (.val o2, h2) ∧ Row h2 o2 (O ++ [x]) ∧ Keeps h h2 (rowBase o) := by
  have hlast : (h.push (.cells 5 1 (T.ofList [byteV x]) false false)).t.get h.n = some (.cells 5 1 (T.ofList [byteV x]) false false) := push_get h _
  have hold : ∀ k, k < h.n → (h.push (.cells 5 1 (T.ofList [byteV x]) false false)).t.get k = h.t.get k := fun k hk => by
    simp only [AH.push, T.get_set]; rw [if_neg (by omega)]
  obtain ⟨o2, h2, q1, q2, q3, q4⟩ := append_row (xt := 67) (M := [x]) (ho.mono (h' := h.push (.cells 5 1 (T.ofList [byteV x]) false false)) (by simp [AH.push]) (fun b hb => hold b (row_base ho hb).2.1)) (piece_one (b := h.n) (cap := 1) (op' := false) x hlast (by simp [T.get_ofList])) (by simp) (by simp; omega)
  have hn : h.n + 1 ≤ h2.n := q3.n
  exact ⟨o2, h2, q1, q2, by omega, fun k hk hne => by rw [q3.get k (by simp [AH.push]; omega) hne, hold k hk]⟩
set_option maxRecDepth 100000 in
theorem fx_loop (Post : Value → World → Prop) : ∀ (m i n : Nat) (h : AH) (o : AV) (O : List Nat) (x : Nat → AV), i + m = 4 → n < 2 ^ 62 → Row h o O → O.length + m < 2 ^ 38 →
    ∃ h' o' x', SndL Q Post fxBody (fxSt h n o i x) (.exit 0) (fxSt h' (n / 256 ^ m) o' 4 x') ∧ Row h' o' (O ++ bytesOf m n)
  | 0, i, n, h, o, O, x, hi, hn, ho, hL => by
    have hi : i = 4 := by omega
    subst hi
    have e : n / 256 ^ 0 = n := by simp
    rw [e]
    exact ⟨h, o, _, .done (fxLast_C Post h n o 4 x ⟨retV_of (by rw [aBin_lss]; rfl), trivial⟩) (by simp), by simpa [bytesOf] using ho⟩
  | m + 1, i, n, h, o, O, x, hi, hn, ho, hL => by
    obtain ⟨o2, h2, q1, q2, q3⟩ := row_grow (n % 256) ho (by omega)
    have hs := fxRound_C Post h h2 n o o2 i x ⟨retV_of (by rw [aBin_lss, decide_eq_true (by omega)]), retV_of (aBin_rem (by decide)), conv_3_5 h (by omega), q1, retV_of (aBin_quo (by decide) (show n < 9223372036854775808 by omega)), retV_of (aBin_add (show i + 1 < 9223372036854775808 by omega)), trivial⟩
    obtain ⟨h', o', x', r1, r2⟩ := fx_loop Post m (i + 1) (n / 256) h2 o2 (O ++ [n % 256]) (gs (fxRoundR Post h h2 n o o2 i x)) (by omega) (by omega) q2 (by simp; omega)
    have e : n / 256 / 256 ^ m = n / 256 ^ (m + 1) := by rw [Nat.div_div_eq_div_mul, Nat.pow_succ, Nat.mul_comm]
    rw [e] at r1
    rw [List.append_assoc] at r2
    exact ⟨h', o', x', .step hs r1, r2⟩
set_option maxRecDepth 100000 in
theorem fixed_snd (Post : Value → World → Prop) (h : AH) {n : Nat} (hn : n < 2 ^ 32) : ∃ h', SndF Q Post 103 [.int .i64 (.ofNat n), .int .i64 (.ofNat 4)] h none (.tuple [.str ((bytesOf 4 n).map UInt8.ofNat), .int .i64 (.ofNat 0)]) h' none := by
  let x0 : Nat → AV := fun _ => .tuple []
  have hA := canonC (SndC.run TabsOk.nil (fxA_run Post h n x0) trivial) (fxA_slots Post h n x0)
  let x1 := gs (fxAR Post h n x0)
  have hB := fxB_C Post h n x1 ⟨retV_of (by rw [aBin_lss]; rfl), trivial⟩
  let x2 := gs (fxBR Post h n x1)
  have hC := canonC (SndC.run TabsOk.nil (fxC_run Post h n x2) trivial) (fxC_slots Post h n x2)
  let x3 := gs (fxCR Post h n x2)
  have hE := canonC (SndC.run TabsOk.nil (fxE_run Post h n (.slice none 0 0 false) x3) trivial) (fxE_slots Post h n (.slice none 0 0 false) x3)
  obtain ⟨h', o', x', r1, r2⟩ := fx_loop Post 4 0 n h (.slice none 0 0 false) [] (gs (fxER Post h n (.slice none 0 0 false) x3)) rfl (by omega) (.inl ⟨rfl, rfl⟩) (by simp)
  have e0 : n / 256 ^ 4 = 0 := by omega
  rw [e0] at r1
  have hD := SndC.run TabsOk.nil (fxD_run Post h' 0 o' 4 ((bytesOf 4 n).map UInt8.ofNat) x') ⟨retV_of (by rw [aBin_gtr]; rfl), conv_67_9 r2, trivial⟩
  refine ⟨h', ?_⟩
  have body : SndC Q Post (bodyOf Tryz.f103) { t := T.ofList [.int .i64 (.ofNat n), .int .i64 (.ofNat 4)], n := 32, h := h, s := none } .ret _ :=
    enterC (.seq hA (.seq hB (.seq hC (.seq (.seq hE (.blockExit (.loop r1))) hD)))) (by rfl)
  exact SndF.of (by kernel_rfl) Tryz.func103 rfl body (.inl rfl) (fxD_res Post h' 0 o' 4 ((bytesOf 4 n).map UInt8.ofNat) x')
end
end Go.Cx

/-
  TEXTS THAT DIFFER IN ONE BYTE HAVE OTHER SUMS.
-/
namespace Go.Cx
noncomputable section
open Go Go.Proofs Go.Conc

def topE (i : Nat) : Nat := crcE i / 2 ^ 24
theorem topE_nodup : nodupB ((List.range 256).map topE) = true := by kernel_rfl
theorem topE_inj {i j : Nat} (hi : i < 256) (hj : j < 256) (h : topE i = topE j) : i = j := by
  have hn : ((List.range 256).map topE).Nodup := nodupB_sound topE_nodup
  have hp := List.pairwise_iff_getElem.1 hn
  have h1 : i < ((List.range 256).map topE).length := by simpa using hi
  have h2 : j < ((List.range 256).map topE).length := by simpa using hj
  rcases Nat.lt_trichotomy i j with hlt | rfl | hlt
  · exact absurd (by simpa using h) (hp i j h1 h2 hlt)
  · rfl
  · exact absurd (by simpa using h.symm) (hp j i h2 h1 hlt)
theorem xor_same {a x y : Nat} (h : a ^^^ x = a ^^^ y) : x = y := by
  have := congrArg (a ^^^ ·) h
  simpa [← Nat.xor_assoc] using this
theorem step_top {c b : Nat} (hc : c < 2 ^ 32) : crcStep c b / 2 ^ 24 = topE ((c % 256) ^^^ b) := by
  unfold crcStep topE
  rw [Nat.xor_div_two_pow, show c / 256 / 2 ^ 24 = 0 by omega, Nat.xor_zero]
theorem byte_xor {a b : Nat} (ha : a < 256) (hb : b < 256) : a ^^^ b < 256 := Nat.xor_lt_two_pow (n := 8) ha hb
theorem step_c {c c' b : Nat} (hc : c < 2 ^ 32) (hc' : c' < 2 ^ 32) (hb : b < 256) (h : crcStep c b = crcStep c' b) : c = c' := by
  have h1 := step_top (b := b) hc
  have h2 := step_top (b := b) hc'
  rw [h] at h1
  have hi := topE_inj (byte_xor (by omega) hb) (byte_xor (by omega) hb) (h1.symm.trans h2)
  unfold crcStep at h
  rw [hi] at h
  have h3 := xor_same h
  rw [Nat.xor_comm, Nat.xor_comm (c' % 256)] at hi
  have h4 := xor_same hi
  omega
theorem step_b {c b b' : Nat} (hc : c < 2 ^ 32) (hb : b < 256) (hb' : b' < 256) (h : crcStep c b = crcStep c b') : b = b' := by
  have h1 := step_top (b := b) hc
  have h2 := step_top (b := b') hc
  rw [h] at h1
  exact xor_same (topE_inj (byte_xor (by omega) hb) (byte_xor (by omega) hb') (h1.symm.trans h2))
theorem crcOn_c : ∀ {l : List UInt8} {c c' : Nat}, c < 2 ^ 32 → c' < 2 ^ 32 → crcOn c l = crcOn c' l → c = c'
  | [], _, _, _, _, h => h
  | b :: l, _, _, hc, hc', h => step_c hc hc' b.toNat_lt (crcOn_c (l := l) (crcStep_lt hc b.toNat_lt) (crcStep_lt hc' b.toNat_lt) h)
theorem crcOn_app : ∀ (p r : List UInt8) (c : Nat), crcOn c (p ++ r) = crcOn (crcOn c p) r
  | [], _, _ => rfl
  | _ :: p, r, _ => crcOn_app p r _
/-- Texts that differ in one byte have other sums. -/
theorem crcF_ne (p r : List UInt8) {b b' : UInt8} (h : b ≠ b') : crcF (p ++ b :: r) ≠ crcF (p ++ b' :: r) := by
  intro he
  unfold crcF at he
  have l1 := crcOn_lt (l := p ++ b :: r) (c := 4294967295) (by decide)
  have l2 := crcOn_lt (l := p ++ b' :: r) (c := 4294967295) (by decide)
  have e : crcOn 4294967295 (p ++ b :: r) = crcOn 4294967295 (p ++ b' :: r) := by omega
  rw [crcOn_app, crcOn_app] at e
  have hp := crcOn_lt (l := p) (c := 4294967295) (by decide)
  have e2 := crcOn_c (l := r) (crcStep_lt hp b.toNat_lt) (crcStep_lt hp b'.toNat_lt) e
  exact h (UInt8.toNat_inj.1 (step_b hp b.toNat_lt b'.toNat_lt e2))
end
end Go.Cx

