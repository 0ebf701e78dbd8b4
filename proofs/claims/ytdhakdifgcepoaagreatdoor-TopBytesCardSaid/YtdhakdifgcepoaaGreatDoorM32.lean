/-
  THE START OF EACH LAW: what the listed variables' hypothesis gives: the lent blocks stand in the world. ..
-/
import Derived.Test.YtdhakdifgcepoaaGreatDoorRows
import Derived.LaidLaws
import Derived.LaidHandle
import Derived.LaidMore
import Derived.OpenShut
import Derived.Conc.Holds
import Derived.ProofKit
import Derived.SizedLaws
import Derived.Conc.LeavingOf
import Derived.ChangeSame
import Derived.RowKit
import Derived.Test.YtdhakdifgcepoaaGreatDoorM03
import Derived.Test.YtdhakdifgcepoaaGreatDoorM04
import Derived.Test.YtdhakdifgcepoaaGreatDoorM25
import Derived.Test.YtdhakdifgcepoaaGreatDoorM26
import Derived.Test.YtdhakdifgcepoaaGreatDoorM28
import Derived.Test.YtdhakdifgcepoaaGreatDoorM29
import Derived.Test.YtdhakdifgcepoaaGreatDoorM30
import Derived.Test.YtdhakdifgcepoaaGreatDoorM31
/-
  THE START OF EACH LAW: what the listed variables' hypothesis gives: the lent blocks stand in the world.
-/
namespace Go.Cx
noncomputable section
open Go Go.Proofs Go.Conc Go.Proofs.YtdhakdifgcepoaaGreatDoor

theorem laidVars_mem {P : Program} {w : World} : ∀ {l : List (String × DataW Unit)} {ps : List MemPlace}, DataW.LaidVars P w l ps → ∀ x ∈ l,
    ∃ g t cs fuel p, P.globalNamed x.1 = some g ∧ (P.globals[g]?).map (·.type) = some t ∧ w.var? P x.1 = some cs ∧ DataW.trod (fun _ => ()) P w 0 (fun _ => true) false fuel t cs.toList = some (x.2, p) ∧ ∀ q, q ∈ MemPlace.row ⟨g, 0, none⟩ cs.size ++ p → q ∈ ps
  | [], _, _, _, hx => by cases hx
  | (n, d) :: r, ps, h, x, hx => by
    obtain ⟨g, t, cs, fuel, p, q, h1, h2, h3, h4, h5, rfl⟩ := h
    rcases List.mem_cons.1 hx with rfl | hx
    · exact ⟨g, t, cs, fuel, p, h1, h2, h3, h4, fun z hz => List.mem_append_left _ hz⟩
    · obtain ⟨g', t', cs', fuel', p', a1, a2, a3, a4, a5⟩ := laidVars_mem h5 x hx
      exact ⟨g', t', cs', fuel', p', a1, a2, a3, a4, fun z hz => List.mem_append_right _ (a5 z hz)⟩

theorem var_cells {P : Program} {w : World} {n : String} {g : Nat} {cs : Array Value} (hg : P.globalNamed n = some g) (hv : w.var? P n = some cs) : ∃ t fr, w.heap[g]? = some (.cells cs t fr) := by
  unfold World.var? at hv
  rw [hg] at hv
  simp only [Option.bind_some] at hv
  split at hv
  · rename_i cs' t fr h
    simp only [Option.some.injEq] at hv
    subst hv
    exact ⟨t, fr, h⟩
  · cases hv

/-- One of the families' errors, as it stands in a world. -/
def ErrAt (W : World) (g : Nat) (a : Addr) : Prop := (∃ t fr, W.heap[g]? = some (.cells #[.iface 540 (.pointer (some a))] t fr)) ∧ a.spot = none ∧ ∃ arr t fr, W.heap[a.block]? = some (.cells arr t fr) ∧ a.off < arr.size

theorem cell_at {W : World} {a : Addr} {v : Value} (h : W.cell? a = some v) : ∃ arr t fr, W.heap[a.block]? = some (.cells arr t fr) ∧ a.off < arr.size := by
  have hs := World.cell?_spot h
  unfold World.cell? at h
  split at h
  · rename_i arr t fr hh
    refine ⟨arr, t, fr, hh, ?_⟩
    rw [hs] at h
    exact (Array.getElem?_eq_some_iff.1 (show arr[a.off]? = some v from h)).1
  · cases h

set_option maxRecDepth 100000 in
theorem err_at {W : World} {l : List (String × DataW Unit)} (h : laidMet Q l W) {n : String} {text : List UInt8} {g : Nat} (hx : (n, DataW.iface "*errors.errorString" (.ptr (.agg [.lit (.string text)]))) ∈ l)
    (hg : Q.globalNamed n = some g) (ht : (Q.globals[g]?).map (·.type) = some 32) : ∃ a, ErrAt W g a := by
  obtain ⟨ps, hv, hnd, hok⟩ := h
  obtain ⟨g', t, cs, fuel, p, a1, a2, a3, a4, a5⟩ := laidVars_mem hv _ hx
  obtain rfl := Option.some.inj (hg.symm.trans a1)
  obtain rfl := Option.some.inj (ht.symm.trans a2)
  obtain ⟨ty, fr, hh⟩ := var_cells a1 a3
  have ok : ∀ u v, cs.toList = [.iface u v] → Value.okWide Q W .any 0 u v := fun u v e => by
    obtain rfl := Array.eq_one_of_toList e
    have hm : MemPlace.cell g 0 ∈ ps := a5 _ (List.mem_append_left _ (by simp [MemPlace.row]))
    refine (hok g 0 hm).2 u v ?_
    simp [World.cell?, hh]
  obtain ⟨a, s, e1, e2, _⟩ := errorString_of_trod (P := Q) (W := W) (f := sField) (tp := 540) (te := 586) (ts := 9) iface32 star_rows u540 u586 sField_type sField_off (by kernel_rfl) (by kernel_rfl) (by kernel_rfl) a4 ok
  obtain rfl := Array.eq_one_of_toList e1
  exact ⟨a, ⟨ty, fr, hh⟩, World.cell?_spot e2, cell_at e2⟩

/-- The table of bits. -/
def bitTab : List Int := [0, 1, 56, 2, 57, 49, 28, 3, 61, 58, 42, 50, 38, 29, 17, 4, 62, 47, 59, 36, 45, 43, 51, 22, 53, 39, 33, 30, 24, 18, 12, 5, 63, 55, 48, 27, 60, 41, 37, 16, 46, 35, 44, 21, 52, 32, 23, 11, 54, 26, 40, 15, 34, 20, 31, 10, 25, 14, 19, 9, 13, 8, 7, 6]
theorem tab_at {W : World} {l : List (String × DataW Unit)} (h : laidMet Q l W) (hx : ("math/bits.deBruijn64tab", DataW.agg (bitTab.map fun n => .lit (.int .u8 n))) ∈ l)
    (hg : Q.globalNamed "math/bits.deBruijn64tab" = some 6) (ht : (Q.globals[6]?).map (·.type) = some 539) : ∃ cs t fr, W.heap[6]? = some (.cells cs t fr) ∧ ∀ (i : Nat) (n : Int), bitTab[i]? = some n → cs[i]? = some (Value.int .u8 n) := by
  obtain ⟨ps, hv, -, -⟩ := h
  obtain ⟨g', t, cs, fuel, p, a1, a2, a3, a4, a5⟩ := laidVars_mem hv _ hx
  obtain rfl := Option.some.inj (hg.symm.trans a1)
  obtain rfl := Option.some.inj (ht.symm.trans a2)
  obtain ⟨ty, fr, hh⟩ := var_cells a1 a3
  obtain ⟨xs, m, _, ex, _, hl, hel⟩ := DataW.trod_array u539 a4
  refine ⟨cs, ty, fr, hh, fun r n hr => ?_⟩
  have hlt : r < bitTab.length := (List.getElem?_eq_some_iff.1 hr).1
  have h64 : bitTab.length = 64 := rfl
  have hE := hel r (by omega)
  rw [cells5, Nat.mul_one, List.getElem?_eq_getElem (by omega)] at hE
  obtain ⟨z, e1, e2, _⟩ := DataW.trod_int u5 hE
  have e3 : (xs.map (·.1)) = bitTab.map fun n => .lit (.int .u8 n) := (DataW.agg.inj (Prod.mk.inj ex).1).symm
  have e4 : (xs.map (·.1))[r]? = (bitTab.map fun n => (DataW.lit (.int .u8 n) : DataW Unit))[r]? := by rw [e3]
  rw [List.getElem?_map, List.getElem?_map, List.getElem?_eq_getElem (by omega : r < xs.length), hr, e2] at e4
  simp only [Option.map_some, Option.some.injEq, DataW.lit.injEq, Lit.int.injEq, true_and] at e4
  subst e4
  have h0 : ((cs.toList.drop r).take 1)[0]? = some (.int .u8 z) := by rw [e1]; rfl
  simpa using h0

theorem type_at {W : World} {l : List (String × DataW Unit)} (h : handlesMet Q l W) (hx : ("errors.errorType", DataW.iface "internal/reflectlite.rtype" (.agg [.ptr (.lit (.string [101, 114, 114, 111, 114]))])) ∈ l) :
    ∃ t fr, W.heap[0]? = some (.cells #[.iface 437 (.agg #[.pointer (some ⟨7, 32, none⟩)])] t fr) := by
  have := h _ hx
  obtain ⟨name, u, ty, e1, e2, e3, e4, e5⟩ := this
  have en : name = [101, 114, 114, 111, 114] := (Option.some.inj e1).symm
  subst en
  obtain rfl := Option.some.inj (rtype437.symm.trans e2)
  have hm : ty ∈ (List.range 660).filter fun t => Q.rowNamed t [101, 114, 114, 111, 114] := List.mem_filter.2 ⟨List.mem_range.2 (Nat.lt_of_lt_of_le e3 types660), e4⟩
  rw [oneRow] at hm
  obtain rfl := List.mem_singleton.1 hm
  rw [handle32] at e5
  exact var_cells et0 e5

/-- What the hypothesis on the listed variables gives. -/
structure Begun (W : World) : Prop where
  ty : ∃ t fr, W.heap[0]? = some (.cells #[.iface 437 (.agg #[.pointer (some ⟨7, 32, none⟩)])] t fr)
  err : ∀ g, 1 ≤ g → g ≤ 5 → ∃ a, ErrAt W g a
  tab : ∃ cs t fr, W.heap[6]? = some (.cells cs t fr) ∧ ∀ (i : Nat) (n : Int), bitTab[i]? = some n → cs[i]? = some (Value.int .u8 n)

open Classical in
noncomputable def startA (W : World) (g : Nat) : Addr := if h : ∃ a, ErrAt W g a then h.choose else default
theorem startA_at {W : World} (h : Begun W) {g : Nat} (h1 : 1 ≤ g) (h2 : g ≤ 5) : ErrAt W g (startA W g) := by
  have := h.err g h1 h2
  unfold startA
  rw [dif_pos this]
  exact this.choose_spec
noncomputable def startEnv (W : World) : Env where
  blk b := if b < 7 then .at b 0 else if b < 12 then .at (startA W (b - 6)).block (startA W (b - 6)).off else .hole
  ex _ := 0

theorem gsize : Q.globals.size = 7 := by kernel_rfl
/-- The lent blocks at the start. -/
def startL : List ABlk := [.cells 372 1 (T.ofList [rt 32]) false true, .cells 32 1 (T.ofList [.iface 540 (.ptr (some (7, 0)))]) false true, .cells 32 1 (T.ofList [.iface 540 (.ptr (some (8, 0)))]) false true, .cells 32 1 (T.ofList [.iface 540 (.ptr (some (9, 0)))]) false true, .cells 32 1 (T.ofList [.iface 540 (.ptr (some (10, 0)))]) false true, .cells 32 1 (T.ofList [.iface 540 (.ptr (some (11, 0)))]) false true, .cells 539 64 (T.ofList (bitTab.map (AV.int .u8))) false true, .cells 586 0 (T.ofList []) false true, .cells 586 0 (T.ofList []) false true, .cells 586 0 (T.ofList []) false true, .cells 586 0 (T.ofList []) false true, .cells 586 0 (T.ofList []) false true]

theorem info_some {t : Nat} {d : TypeDesc} (h : Q.underlying t = some d) : ∃ i, Q.info? t = some i := by
  cases e : Q.info? t with
  | some i => exact ⟨i, rfl⟩
  | none => simp [Program.underlying, e] at h
theorem info372 : ∃ i, Q.info? 372 = some i := by
  have h : (Q.info? 372).isSome = true := by kernel_rfl
  exact Option.isSome_iff_exists.1 h

theorem br_err {W : World} (h : Begun W) {B : Nat} {g : Nat} (h1 : 1 ≤ g) (h2 : g ≤ 5) : BR Q B (startEnv W) W g g 0 (.cells 32 1 (T.ofList [.iface 540 (.ptr (some (6 + g, 0)))]) false true) := by
  obtain ⟨⟨t, fr, e1⟩, e2, e3⟩ := startA_at h h1 h2
  refine ⟨_, t, fr, e1, fun i hi => ?_, (fun hf => by cases hf), ?_, fun _ => rfl⟩
  · obtain rfl : i = 0 := by omega
    refine ⟨_, _, rfl, rfl, rfl, .iface ?_⟩
    have hb : (startEnv W).blk (6 + g) = .at (startA W g).block (startA W g).off := by
      simp only [startEnv]
      rw [if_neg (by omega), if_pos (by omega), Nat.add_sub_cancel_left]
    have ha : startA W g = ⟨(startA W g).block, (startA W g).off + 0, none⟩ := by
      rw [Nat.add_zero, ← e2]
    rw [ha]
    exact .ptr hb
  · obtain ⟨i, hi⟩ := info_some iface32
    exact ⟨i, hi, by simp⟩

theorem br_str {W : World} (h : Begun W) {B : Nat} {g : Nat} (h1 : 1 ≤ g) (h2 : g ≤ 5) : BR Q B (startEnv W) W (6 + g) (startA W g).block (startA W g).off (.cells 586 0 (T.ofList []) false true) := by
  obtain ⟨-, e2, arr, t, fr, e3, e4⟩ := startA_at h h1 h2
  refine ⟨arr, t, fr, e3, fun i hi => by omega, (fun hf => by cases hf), ?_, fun _ => rfl⟩
  obtain ⟨i, hi⟩ := info_some u586
  refine ⟨i, hi, ?_⟩
  simp only [Bool.false_eq_true, if_false, Nat.zero_mul]
  omega

theorem br_ty {W : World} (h : Begun W) {B : Nat} : BR Q B (startEnv W) W 0 0 0 (.cells 372 1 (T.ofList [rt 32]) false true) := by
  obtain ⟨t, fr, e1⟩ := h.ty
  obtain ⟨i, hi⟩ := info372
  refine ⟨_, t, fr, e1, fun i hi => ?_, (fun hf => by cases hf), ⟨i, hi, by simp⟩, fun _ => rfl⟩
  obtain rfl : i = 0 := by omega
  exact ⟨_, _, rfl, rfl, rfl, .iface (.agg (.cons (.raw _) .nil) rfl)⟩

theorem br_tab {W : World} (h : Begun W) {B : Nat} : BR Q B (startEnv W) W 6 6 0 (.cells 539 64 (T.ofList (bitTab.map (AV.int .u8))) false true) := by
  obtain ⟨cs, t, fr, e1, e2⟩ := h.tab
  have h64 : bitTab.length = 64 := rfl
  refine ⟨cs, t, fr, e1, fun i hi => ?_, (fun hf => by cases hf), ?_, fun _ => rfl⟩
  · have hb : bitTab[i]? = some bitTab[i] := List.getElem?_eq_getElem (by omega)
    refine ⟨.int .u8 bitTab[i], .int .u8 bitTab[i], ?_, rfl, ?_, .int _ _⟩
    · rw [T.get_ofList, List.getElem?_map, hb]; rfl
    · rw [Nat.zero_add]; exact e2 _ _ hb
  · obtain ⟨i, hi⟩ := info_some u539
    refine ⟨i, hi, ?_⟩
    have h63 : bitTab[63]? = some 6 := rfl
    have := (Array.getElem?_eq_some_iff.1 (e2 63 6 h63)).1
    simp only [Bool.false_eq_true, if_false, Nat.zero_mul]
    omega

theorem startL_get {b : Nat} {blk : ABlk} (h : (heapOf startL).t.get b = some blk) : (b = 0 ∧ blk = .cells 372 1 (T.ofList [rt 32]) false true) ∨ (∃ g, 1 ≤ g ∧ g ≤ 5 ∧ b = g ∧ blk = .cells 32 1 (T.ofList [.iface 540 (.ptr (some (6 + g, 0)))]) false true) ∨
    (b = 6 ∧ blk = .cells 539 64 (T.ofList (bitTab.map (AV.int .u8))) false true) ∨ (∃ g, 1 ≤ g ∧ g ≤ 5 ∧ b = 6 + g ∧ blk = .cells 586 0 (T.ofList []) false true) := by
  have hl : startL.length = 12 := rfl
  simp only [heapOf, T.get_ofList] at h
  have hlt := (List.getElem?_eq_some_iff.1 h).1
  match b, h, hlt with
  | 0, h, _ => exact .inl ⟨rfl, (Option.some.inj h).symm⟩
  | 1, h, _ => exact .inr (.inl ⟨1, by decide, by decide, rfl, (Option.some.inj h).symm⟩)
  | 2, h, _ => exact .inr (.inl ⟨2, by decide, by decide, rfl, (Option.some.inj h).symm⟩)
  | 3, h, _ => exact .inr (.inl ⟨3, by decide, by decide, rfl, (Option.some.inj h).symm⟩)
  | 4, h, _ => exact .inr (.inl ⟨4, by decide, by decide, rfl, (Option.some.inj h).symm⟩)
  | 5, h, _ => exact .inr (.inl ⟨5, by decide, by decide, rfl, (Option.some.inj h).symm⟩)
  | 6, h, _ => exact .inr (.inr (.inl ⟨rfl, (Option.some.inj h).symm⟩))
  | 7, h, _ => exact .inr (.inr (.inr ⟨1, by decide, by decide, rfl, (Option.some.inj h).symm⟩))
  | 8, h, _ => exact .inr (.inr (.inr ⟨2, by decide, by decide, rfl, (Option.some.inj h).symm⟩))
  | 9, h, _ => exact .inr (.inr (.inr ⟨3, by decide, by decide, rfl, (Option.some.inj h).symm⟩))
  | 10, h, _ => exact .inr (.inr (.inr ⟨4, by decide, by decide, rfl, (Option.some.inj h).symm⟩))
  | 11, h, _ => exact .inr (.inr (.inr ⟨5, by decide, by decide, rfl, (Option.some.inj h).symm⟩))
  | n + 12, _, hlt => omega

/-- THE START: the lent blocks stand in the world. -/
theorem start_hs {W : World} (h : Begun W) : HS Q W.heap.size W [] (startEnv W) (heapOf startL) none none W := by
  have hlt : ∀ b c sh, (startEnv W).blk b = .at c sh → b < 12 ∧ c < W.heap.size := fun b c sh hb => by
    simp only [startEnv] at hb
    split at hb
    · rename_i h7
      simp only [Slot.at.injEq] at hb
      obtain ⟨rfl, rfl⟩ := hb
      refine ⟨by omega, ?_⟩
      rcases Nat.lt_or_ge b 1 with h1 | h1
      · obtain rfl : b = 0 := by omega
        exact (br_ty (B := 0) h).lt
      · rcases Nat.lt_or_ge b 6 with h2 | h2
        · exact (br_err (B := 0) h h1 (by omega)).lt
        · obtain rfl : b = 6 := by omega
          exact (br_tab (B := 0) h).lt
    · split at hb
      · rename_i h7 h12
        simp only [Slot.at.injEq] at hb
        obtain ⟨rfl, rfl⟩ := hb
        exact ⟨h12, (br_str (B := 0) h (g := b - 6) (by omega) (by omega)).lt⟩
      · cases hb
  refine ⟨rfl, rfl, rfl, Nat.le_refl _, fun _ _ => rfl, Nat.le_refl _, ?_, fun b b' c sh sh' hB hb _ => ?_, fun b hb => ?_, fun b hb => ?_, fun b blk c sh hg hb => ?_, fun b hb => ?_, fun g hg => ?_, trivial, fun b hb => ?_, fun b hb => by cases hb⟩
  · rw [gsize]
    have := (br_tab (B := 0) h).lt
    omega
  · exact absurd (hlt _ _ _ hb).2 (by omega)
  · have hl : startL.length = 12 := rfl
    simp only [heapOf, T.get_ofList, List.getElem?_eq_none_iff] at hb
    simp only [startEnv]
    rw [if_neg (by omega), if_neg (by omega)]
  · simp only [heapOf] at hb ⊢
    rw [T.get_ofList, List.getElem?_eq_none hb]
  · rcases startL_get hg with ⟨rfl, rfl⟩ | ⟨g, h1, h2, rfl, rfl⟩ | ⟨rfl, rfl⟩ | ⟨g, h1, h2, rfl, rfl⟩
    · simp only [startEnv, Nat.zero_lt_succ, if_true, Slot.at.injEq] at hb
      obtain ⟨rfl, rfl⟩ := hb
      exact br_ty h
    · simp only [startEnv] at hb
      rw [if_pos (by omega)] at hb
      simp only [Slot.at.injEq] at hb
      obtain ⟨rfl, rfl⟩ := hb
      exact br_err h h1 h2
    · simp only [startEnv, Nat.reduceLT, if_true, Slot.at.injEq] at hb
      obtain ⟨rfl, rfl⟩ := hb
      exact br_tab h
    · simp only [startEnv] at hb
      rw [if_neg (by omega), if_pos (by omega), Nat.add_sub_cancel_left] at hb
      simp only [Slot.at.injEq] at hb
      obtain ⟨rfl, rfl⟩ := hb
      exact br_str h h1 h2
  · simp only [startEnv] at hb
    split at hb
    · cases hb
    · split at hb <;> cases hb
  · rw [gsize] at hg
    simp only [startEnv, if_pos hg]
  · rcases startL_get hb with ⟨_, e⟩ | ⟨g, _, _, _, e⟩ | ⟨_, e⟩ | ⟨g, _, _, _, e⟩ <;> cases e
end
end Go.Cx

/-
  FROM A LAW's BODY TO THE ROW's CONTRACT.
-/
namespace Go.Cx
noncomputable section
open Go Go.Proofs Go.Conc Go.Proofs.YtdhakdifgcepoaaGreatDoor

section
variable {H : Type} {enc : TypeId × Value → H}
/-- 'returnsInLeavingWide_of_change_sized' for a row that lists variables. -/
theorem leaving_and {a : Assume} {C : Checked} {os : Os} {f : FuncId} {fn : Func} {s : ChangeSpec} {conds : List PathCond} {apart fresh handsOn again : Bool} {X : World → Array Value → Prop}
    (hX : ∀ (w w' : World) (args : Array Value), w.heap = w'.heap → X w args → X w' args)
    (own : ownKnob C.prog.godebug = none) (started : os.Started) (hfn : C.prog.funcs[f]? = some fn)
    (witness : ∃ (w : World) (tape : Tape) (i : Input), w.os = os ∧ (w.forCall tape i).Shaped C.prog ∧ i.vars = [] ∧ Input.okWide C.prog (w.forCall tape i) .any w.heap.size f i ∧
      ((s.pre enc C.prog fn conds apart (w.forCall tape i).memory i.args ∧ X (w.forCall tape i).memory i.args) ∧ sizedMet enc C.prog fn (OpenSpec.ofChange s) apart (w.forCall tape i).memory i.args) ∧ a.holds C.prog (lone (Frame.enter C.prog f i.args .normal) [] (w.forCall tape i)))
    (runs : ∀ (W : World) (base : Nat) (args : Array Value) (ds gs : List (DataW H)) (before : List MemPlace),
      (∀ (j : Nat) t v, fn.params[j]? = some t → args[j]? = some v → Value.okWide C.prog W .any base t v) →
      DataW.Whole enc C.prog fn.params.toList s.vars apart W args.toList ds gs before →
      conds.all (PathCond.test C.prog ⟨fn.params.toList, ds, s.plain.varTypes C.prog, gs⟩) = true →
      (DataW.weightsEach C.prog (fn.params.toList ++ s.plain.varTypes C.prog) (ds ++ gs)).all (· ≤ reachBytes) = true → X W args →
      Runs C.prog (fun v W' => s.post enc C.prog fn apart fresh handsOn again W args v W') none (G (Frame.enter C.prog f args .normal) []) W) :
    ReturnsInLeavingWide a C os f .any (fun w args => (s.pre enc C.prog fn conds apart w args ∧ X w args) ∧ sizedMet enc C.prog fn (OpenSpec.ofChange s) apart w args) (s.post enc C.prog fn apart fresh handsOn again) := by
  refine returnsInLeavingWide_of_good own started witness ?_
  intro w tape i _ _ _ hok hpre _
  obtain ⟨_, _, _, fn', hfn', _, _, _, _, hval⟩ := hok
  have e : fn' = fn := Option.some.inj (hfn'.symm.trans hfn)
  subst e
  obtain ⟨⟨⟨ds, gs, before, hw, hc⟩, hx⟩, hz⟩ := hpre
  have hw' := DataW.Whole.of_heap (w' := w.forCall tape i) (by rfl) hw
  obtain ⟨M, last, o, w', t', h1, h2, h3, h4⟩ := runs_ends_solo (runs (w.forCall tape i) w.heap.size i.args ds gs before hval hw' hc (hz.weights hw) (hX _ _ _ (by rfl) hx))
  exact ⟨M, last, o, w', t', h1, h2, h3, h4.mono fun v hp => ChangeSpec.post_blind hp⟩

/-- What HS says of the world behind: what was there is there. -/
theorem HS.same {P : Program} {w₀ w : World} {K : List Nat} {env : Env} {h : AH} (hs : HS P w₀.heap.size w₀ K env h none none w) : w.os = w₀.os ∧ w.output = w₀.output ∧ ∀ c, c < w₀.heap.size → w.heap[c]? = w₀.heap[c]? :=
  ⟨hs.os, hs.output, hs.base⟩
theorem keptBut_of_same {w w' : World} {may : MemPlace → Prop} (h : w'.os = w.os ∧ w'.output = w.output ∧ ∀ c, c < w.heap.size → w'.heap[c]? = w.heap[c]?) : w.keptBut w' may := by
  refine ⟨h.1, h.2.1, fun i hi => ?_⟩
  have e := h.2.2 i hi
  cases hw : w.heap[i]? with
  | none => rw [hw] at e; rw [e]
  | some o =>
    rw [hw] at e
    rw [e]
    cases o <;> simp
end
end
end Go.Cx

/-
  WHAT THE ROWS' LISTED VARIABLES GIVE, AND A START THAT HAS THEM.
-/
namespace Go.Cx
noncomputable section
open Go Go.Proofs Go.Conc Go.Proofs.YtdhakdifgcepoaaGreatDoor

/-- The rows' list. -/
noncomputable def laidL : List (String × DataW Unit) := Rows.topBytesRow.laid
noncomputable def laidD : List (String × DataW Unit) := laidL.filter fun x => x.2.handleName?.isNone
noncomputable def laidE : List (String × DataW Unit) := laidL.filter fun x => x.2.handleName?.isSome
def inD (x : String × DataW Unit) (l : List (String × DataW Unit)) : Bool := l.any fun y => y.1 == x.1
theorem mem_of_find {l : List (String × DataW Unit)} {n : String} {d : DataW Unit} (h : l.find? (fun y => y.1 == n) = some (n, d)) : (n, d) ∈ l := List.mem_of_find?_eq_some h
theorem d1 : ("collimator/blame.errBytes", DataW.iface "*errors.errorString" (.ptr (.agg [.lit (.string [98, 121, 116, 101, 115])]))) ∈ laidD := mem_of_find (by kernel_rfl)
theorem d2 : ("collimator/blame.errCodes", DataW.iface "*errors.errorString" (.ptr (.agg [.lit (.string [99, 111, 100, 101, 115])]))) ∈ laidD := mem_of_find (by kernel_rfl)
theorem d3 : ("collimator/blame.errTexts", DataW.iface "*errors.errorString" (.ptr (.agg [.lit (.string [116, 101, 120, 116, 115])]))) ∈ laidD := mem_of_find (by kernel_rfl)
theorem d4 : ("collimator/blame.errRoom", DataW.iface "*errors.errorString" (.ptr (.agg [.lit (.string [114, 111, 111, 109])]))) ∈ laidD := mem_of_find (by kernel_rfl)
theorem d5 : ("collimator/blame.errOther", DataW.iface "*errors.errorString" (.ptr (.agg [.lit (.string [111, 116, 104, 101, 114])]))) ∈ laidD := mem_of_find (by kernel_rfl)
theorem d6 : ("math/bits.deBruijn64tab", DataW.agg (bitTab.map fun n => .lit (.int .u8 n))) ∈ laidD := mem_of_find (by kernel_rfl)
theorem d0 : ("errors.errorType", DataW.iface "internal/reflectlite.rtype" (.agg [.ptr (.lit (.string [101, 114, 114, 111, 114]))])) ∈ laidE := mem_of_find (by kernel_rfl)
theorem gn1 : Q.globalNamed "collimator/blame.errBytes" = some 1 := by kernel_rfl
theorem gn2 : Q.globalNamed "collimator/blame.errCodes" = some 2 := by kernel_rfl
theorem gn3 : Q.globalNamed "collimator/blame.errTexts" = some 3 := by kernel_rfl
theorem gn4 : Q.globalNamed "collimator/blame.errRoom" = some 4 := by kernel_rfl
theorem gn5 : Q.globalNamed "collimator/blame.errOther" = some 5 := by kernel_rfl
theorem gn6 : Q.globalNamed "math/bits.deBruijn64tab" = some 6 := by kernel_rfl
theorem gt1 : (Q.globals[1]?).map (·.type) = some 32 := by kernel_rfl
theorem gt2 : (Q.globals[2]?).map (·.type) = some 32 := by kernel_rfl
theorem gt3 : (Q.globals[3]?).map (·.type) = some 32 := by kernel_rfl
theorem gt4 : (Q.globals[4]?).map (·.type) = some 32 := by kernel_rfl
theorem gt5 : (Q.globals[5]?).map (·.type) = some 32 := by kernel_rfl
theorem gt6 : (Q.globals[6]?).map (·.type) = some 539 := by kernel_rfl

theorem begun_of {W : World} (h : laidMetH Q laidL W) : Begun W := by
  unfold laidMetH at h
  have hE : (laidL.filter fun x => x.2.handleName?.isSome) = laidE := rfl
  have hn : laidE ≠ [] := fun e => by have := d0; rw [e] at this; cases this
  rw [hE] at h
  have h' : laidMet Q laidD W ∧ handlesMet Q laidE W := by
    cases e : laidE with
    | nil => exact absurd e hn
    | cons a r => rw [e] at h; exact h
  obtain ⟨hd, hh⟩ := h'
  refine ⟨type_at hh d0, fun g h1 h2 => ?_, tab_at hd d6 gn6 gt6⟩
  match g, h1, h2 with
  | 1, _, _ => exact err_at hd d1 gn1 gt1
  | 2, _, _ => exact err_at hd d2 gn2 gt2
  | 3, _, _ => exact err_at hd d3 gn3 gt3
  | 4, _, _ => exact err_at hd d4 gn4 gt4
  | 5, _, _ => exact err_at hd d5 gn5 gt5
  | g + 6, _, h2 => omega

theorem own : ownKnob Q.godebug = none := by kernel_rfl
end
end Go.Cx

/-
  A START FOR THE WITNESS.
-/
namespace Go.Cx
noncomputable section
open Go Go.Proofs Go.Proofs.YtdhakdifgcepoaaGreatDoor
theorem forCall_heap (w : World) (args : Array Value) : (w.forCall (fun _ _ => 0) ⟨#[], args, []⟩).heap = w.heap := by simp [World.forCall, Input.heap]
theorem door_shaped (os : Os) (args : Array Value) : ((World.doorLaid Q 400 os).forCall (fun _ _ => 0) ⟨#[], args, []⟩).Shaped Q := World.shaped_of_RefB (door_shape1 os args) (door_shape2 os args)
theorem met_of {P : Program} {w : World} {l : List (String × DataW Unit)} {fuel : Nat}
    (hB : (DataW.laidRun P w fuel ((l.filter fun x => x.2.handleName?.isNone).map (·.1))).map (·.1) = some (l.filter fun x => x.2.handleName?.isNone))
    (hC : (DataW.laidRun P w fuel ((l.filter fun x => x.2.handleName?.isNone).map (·.1))).map (fun x => decide x.2.Nodup && laidRowsB P w x.2) = some true)
    (hD : (l.filter fun x => x.2.handleName?.isSome).all (handleAtB P w) = true) : laidMetH P l w := laidMetH_of_parts (laidMet_of_run' fuel hB hC) hD
theorem laidL_eq : laidL = laidT := by kernel_rfl
theorem door_met0 (os : Os) : laidMetH Tryz.prog laidT (varsWorld Tryz.prog 400 (varsId Tryz.prog) os (fun _ _ => 0)).memory :=
  @met_of Tryz.prog (varsWorld Tryz.prog 400 (varsId Tryz.prog) os (fun _ _ => 0)).memory laidT 8 (tB os (fun _ _ => 0)) (tC os (fun _ _ => 0)) (tD os (fun _ _ => 0))
theorem met_heap {P : Program} {l : List (String × DataW Unit)} {w w' : World} (h : laidMetH P l w) (e : w.heap = w'.heap) : laidMetH P l w' := h.of_heap e
theorem door_heap (os : Os) (args : Array Value) : (varsWorld Tryz.prog 400 (varsId Tryz.prog) os (fun _ _ => 0)).memory.heap = ((World.doorLaid Tryz.prog 400 os).forCall (fun _ _ => 0) ⟨#[], args, []⟩).memory.heap := by
  show (World.doorLaid Tryz.prog 400 os).heap = (World.forCall (World.doorLaid Tryz.prog 400 os) (fun _ _ => 0) ⟨#[], args, []⟩).heap
  rw [forCall_heap]
theorem door_met (os : Os) (args : Array Value) : laidMetH Q laidL ((World.doorLaid Q 400 os).forCall (fun _ _ => 0) ⟨#[], args, []⟩).memory := by
  rw [laidL_eq]
  exact met_heap (door_met0 os) (door_heap os args)
end
end Go.Cx

