/-
  THE ORACLE FOR errors.As's FUNCTIONS IS BORNE OUT. ..
-/
import Derived.Test.YtdhakdifgcepoaaGreatDoorM03
import Derived.Test.YtdhakdifgcepoaaGreatDoorM05
/-
  THE ORACLE FOR errors.As's FUNCTIONS IS BORNE OUT.
-/
namespace Go.Cx
noncomputable section
open Go Go.Proofs Go.Conc

def ValX (P : Program) (B : Nat) (w₀ : World) (K : List Nat) (env : Env) (h' : AH) (s : Option (Nat × List AV)) (S : Option (Nat × List Value)) (w : World) (sem : Sem Next) (v : AV) : Prop :=
  ∃ env' V w', env.le env' ∧ DoesX P sem w (.value V) w' ∧ VR env' v V ∧ HS P B w₀ K env' h' s S w' ∧ ∀ es : Array Event, (∀ e ∈ es, EvOk e) → Own w w' es

section
variable {P : Program} {B : Nat} {w₀ : World} {K : List Nat} {env : Env} {h h' : AH} {s : Option (Nat × List AV)} {S : Option (Nat × List Value)} {w w' : World} {a : Act} {v : AV} {o : Oper}

theorem ValX.op {sem : Sem Next} (hx : ∀ {V w'}, DoesX P sem w V w' → DoesX P (execOp a.eval o) w V w') (fn : FuncId) (hv : ValX P B w₀ K env h' s S w sem v) :
    ∃ env' V w', env.le env' ∧ (execOp a.eval o).run P w = .ok (.value V) w' ∧ VR env' v V ∧ HS P B w₀ K env' h' s S w' ∧ Own w w' (listed P fn a o w) := by
  obtain ⟨env', V, w', h1, h2, h3, h4, h5⟩ := hv
  have h6 := hx h2
  exact ⟨env', V, w', h1, h6.1, h3, h4, h5 _ (h6.listed fn)⟩
theorem ValX.still {sem : Sem Next} {V : Value} (hs : HS P B w₀ K env h s S w) (hd : DoesX P sem w (.value V) w) (hv : VR env v V) : ValX P B w₀ K env h s S w sem v :=
  ⟨env, V, w, Env.le_refl env, hd, hv, hs, fun _ he => own_same' rfl he⟩

/-- What a cell of a block holds. -/
theorem load_cell (hs : HS P B w₀ K env h s S w) {t : TypeId} {b o : Nat} {p : Nat × Nat} {V : Value} (ht : aIsAgg P t = false) (hl : aLoad P h t b o = some (.ptr (some p))) (hv : VR env (.ptr (some (b, o))) V) :
    ∃ c q, V = .pointer (some ⟨c, q, none⟩) ∧ ∃ x, w.cell? ⟨c, q, none⟩ = some (.pointer (some x)) ∧ VR env (.ptr (some p)) (.pointer (some x)) := by
  unfold aLoad at hl
  cases hb : h.t.get b with
  | none => simp [hb] at hl
  | some blk =>
    cases blk with
    | cells e n c op ro =>
      simp only [hb, ht, Bool.false_eq_true, if_false] at hl
      split at hl
      · rename_i hk
        simp only [Bool.and_eq_true, decide_eq_true_eq] at hk
        obtain ⟨cc, sh, hat, rfl, hbr⟩ := hs.at_ptr hb (by simp) hv
        obtain ⟨v1, V1, q1, q2, q3, q4⟩ := hbr.cell hk.2
        rw [hl] at q1; cases q1
        refine ⟨cc, sh + o, rfl, ?_⟩
        cases q4 with
        | ptr hx => exact ⟨_, q3, .ptr hx⟩
        | ptrD hx ad => exact ⟨_, q3, .ptrD hx ad⟩
      · cases hl
    | _ => simp [hb] at hl
end

theorem q_agg268 : aIsAgg Q 268 = false := by kernel_rfl
theorem q_agg143 : aIsAgg Q 143 = false := by kernel_rfl
theorem q_info268 : (Q.info? 268).isSome = true := by kernel_rfl
theorem q_info143 : (Q.info? 143).isSome = true := by kernel_rfl

section
variable {B : Nat} {w₀ : World} {K : List Nat} {env : Env} {h h' : AH} {s : Option (Nat × List AV)} {S : Option (Nat × List Value)} {w w' : World} {a : Act} {v : AV} {o : Oper}

theorem vr_rt (env : Env) (t : Nat) : VR env (rt t) (tyV t) := .iface (.agg (.cons (.raw _) .nil) rfl)
theorem vr_rv {t : Nat} {p : Nat × Nat} {x : Addr} {fl : Int} (h : VR env (.ptr (some p)) (.pointer (some x))) : VR env (rv t p fl) (vrV t x fl) := .agg (.cons (.raw _) (.cons h (.cons (.int _ _) .nil))) rfl

theorem VRs.one {v : AV} {L : List Value} (h : VRs env [v] L) : ∃ V, L = [V] ∧ VR env v V := by
  cases h with | cons h1 h2 => cases h2; exact ⟨_, rfl, h1⟩
theorem VRs.two {u v : AV} {L : List Value} (h : VRs env [u, v] L) : ∃ U V, L = [U, V] ∧ VR env u U ∧ VR env v V := by
  cases h with | cons h1 h2 => obtain ⟨V, rfl, hv⟩ := h2.one; exact ⟨_, _, rfl, h1, hv⟩
theorem VR.iface_inv {t : TypeId} {v : AV} {V : Value} (h : VR env (.iface t v) V) : ∃ U, V = .iface t U ∧ VR env v U := by cases h; exact ⟨_, rfl, ‹_›⟩
theorem VR.ptr_some {p : Nat × Nat} {V : Value} (h : VR env (.ptr (some p)) V) : ∃ x, V = .pointer (some x) := by cases h <;> exact ⟨_, rfl⟩
theorem VR.rv_inv {ad : Addr} {p : Nat × Nat} {fl : Int} {V : Value} (h : VR env (.agg [.raw ad, .ptr (some p), .int .u64 fl]) V) : ∃ x, V = .agg #[.pointer (some ad), .pointer (some x), .int .u64 fl] ∧ VR env (.ptr (some p)) (.pointer (some x)) := by
  obtain ⟨L, rfl, h1, -⟩ := h.agg_inv
  cases h1 with
  | cons h1 h2 =>
    obtain ⟨U, W, rfl, h3, h4⟩ := h2.two
    cases h1
    cases h4
    obtain ⟨x, rfl⟩ := h3.ptr_some
    exact ⟨x, rfl, h3⟩
theorem VR.raw1_inv {ad : Addr} {t : TypeId} {V : Value} (h : VR env (.iface t (.agg [.raw ad])) V) : V = .iface t (.agg #[.pointer (some ad)]) := by
  obtain ⟨U, rfl, h1⟩ := h.iface_inv
  obtain ⟨L, rfl, h2, -⟩ := h1.agg_inv
  obtain ⟨W, rfl, h3⟩ := h2.one
  cases h3
  rfl

theorem valueOf_sound (hs : HS Q B w₀ K env h s S w) {t : Nat} (ht : t = 268 ∨ t = 143) {u : AV} {x : Addr} (hu : VR env u (.pointer (some x))) (hp : isPtr u = true) :
    ValX Q B w₀ K env (h.push (.cells t 1 (T.ofList [u]) false false)) s S w (callFunc 248 #[.iface t (.pointer (some x))]) (rv t (h.n, 0) 150) := by
  have hB : B ≤ w.heap.size := by have := hs.size; have := hs.bound; omega
  have hsc : u.scalar = true := by cases u <;> first | rfl | cases hp
  have hi : ∃ i, Q.info? t = some i := by
    rcases ht with rfl | rfl
    · exact Option.isSome_iff_exists.1 q_info268
    · exact Option.isSome_iff_exists.1 q_info143
  let w1 : World := { w with heap := w.heap.push (.cells #[.pointer (some x)] t) }
  have hn1 : New1 (.cells #[.pointer (some x)] t) w w1 := ⟨rfl, rfl, rfl, rfl⟩
  have hle := Env.le_fill (c := w.heap.size) (sh := 0) (ex := 0) (hs_hole hs)
  have hfill := (hs.apush (blk := .cells t 1 (T.ofList [u]) false false) (by simp)).fill (w' := w1) (ex := 0) (push_get h _) (hs_hole hs) (hs_notK hs) hn1 (by
    refine br_row (l := [u]) hB hi.choose_spec (by simp [hsc]) hn1.new (fun j hj => ?_) (unfrozen_0 _) (fun _ => rfl) (by simp)
    have : j = 0 := by simp at hj; omega
    subst this
    exact ⟨u, _, rfl, by simp, hu.mono hle⟩)
  refine ⟨_, vrV t ⟨w.heap.size, 0, none⟩ 150, w1, hle, ?_, vr_rv vr_newPtr, hfill, fun es he => own_new' hn1 he⟩
  refine peel_does (c248 t x ht) ⟨⟨_, rfl⟩, trivial⟩ (.new ?_)
  exact peel_does (c248' t x ht w.heap.size) trivial (.pure _ _)

theorem asFn_sound {f : FuncId} {l : List AV} {Args : Array Value} (hx : asFn Q f l h = some (v, h')) (hA : VRs env l Args.toList) (hs : HS Q B w₀ K env h s S w) : ValX Q B w₀ K env h' s S w (callFunc f Args) v := by
  obtain ⟨Args⟩ := Args
  simp only at hA
  unfold asFn at hx
  split at hx
  · -- ValueOf, TypeOf
    rename_i t u
    obtain ⟨V, rfl, hV⟩ := hA.one
    obtain ⟨U, rfl, hU⟩ := hV.iface_inv
    split at hx
    · rename_i hf
      have hf := Nat.eq_of_beq_eq_true hf
      subst hf
      split at hx
      · rename_i hc
        simp only [Bool.and_eq_true, Bool.or_eq_true] at hc
        obtain ⟨hc, hp⟩ := hc
        have ht : t = 268 ∨ t = 143 := hc.imp Nat.eq_of_beq_eq_true Nat.eq_of_beq_eq_true
        cases hx
        have : ∃ x, U = .pointer (some x) := by
          cases u <;> first
            | (cases hp; done)
            | (rename_i p; cases p <;> first | (cases hp; done) | exact hU.ptr_some)
        obtain ⟨x, rfl⟩ := this
        exact valueOf_sound hs ht hU hp
      · cases hx
    · rename_i hf
      have hf := Nat.eq_of_beq_eq_true hf
      subst hf
      split at hx
      · rename_i hc
        simp only [Bool.or_eq_true] at hc
        have ht : t = 540 ∨ t = 143 := hc.symm.imp Nat.eq_of_beq_eq_true Nat.eq_of_beq_eq_true
        cases hx
        exact .still hs (peel_does (c322 t U ht) ⟨⟨_, rfl⟩, trivial⟩ (.pure _ _)) (vr_rt _ _)
      · cases hx
    · cases hx
  · -- Type, IsNil, Elem
    rename_i ad b o fl
    obtain ⟨V, rfl, hV⟩ := hA.one
    obtain ⟨x, rfl, hxp⟩ := hV.rv_inv
    split at hx
    · rename_i hc
      obtain ⟨rfl, rfl⟩ := hc
      split at hx
      · rename_i hf
        subst hf
        cases hx
        exact .still hs (peel_does (c249 x) ⟨⟨_, rfl⟩, trivial⟩ (.pure _ _)) (vr_rt _ _)
      · split at hx
        · rename_i p hl
          obtain ⟨c, q, hq, y, hy, hvy⟩ := load_cell hs q_agg268 hl hxp
          cases hq
          split at hx
          · rename_i hf
            subst hf
            cases hx
            exact .still hs (peel_does (c250 _ y) ⟨⟨_, rfl⟩, hy, trivial⟩ (.pure _ _)) (.bool _)
          · split at hx
            · rename_i hf
              subst hf
              cases hx
              exact .still hs (peel_does (c323 _ y) ⟨⟨_, rfl⟩, hy, trivial⟩ (.pure _ _)) (vr_rv hvy)
            · cases hx
        · cases hx
    · cases hx
  · -- Set
    rename_i ad b o fl ad' b' o' fl'
    obtain ⟨V, V', rfl, hV, hV'⟩ := hA.two
    obtain ⟨x, rfl, hxp⟩ := hV.rv_inv
    obtain ⟨x', rfl, hxp'⟩ := hV'.rv_inv
    split at hx
    · rename_i hc
      obtain ⟨rfl, rfl, rfl, rfl, rfl⟩ := hc
      split at hx
      · rename_i p hl
        obtain ⟨c, q, hq, y, hy, hvy⟩ := load_cell hs q_agg143 hl hxp'
        cases hq
        obtain ⟨h1, h2, h3⟩ := Option.map_eq_some_iff.1 hx
        cases h3
        obtain ⟨hsz, hput⟩ := aStore_some h2
        obtain ⟨e, n, cs, op, hb, -⟩ := aPut_some hput
        obtain ⟨c2, sh, hat, hq, -⟩ := hs.at_ptr hb (by simp) hxp
        cases hq
        obtain ⟨w1, d1, d2, d3⟩ := put_sound hs hput hat hvy.cells
        refine ⟨env, .tuple #[], w1, Env.le_refl env, ?_, .tuple .nil, d2, fun es he => own_put' d3.1 d3.2.1 d3.2.2 he⟩
        exact peel_does (c324 _ _ y) ⟨⟨_, rfl⟩, hy, trivial⟩ (.store d1 (peel_does (c324' _ _ y) trivial (.pure _ _)))
      · cases hx
    · cases hx
  · cases hx

theorem asMethod_sound {name : String} {l : List AV} {Args : List Value} (hx : asMethod name l = some v) (hA : VRs env l Args) (hs : HS Q B w₀ K env h s S w) : ∃ r L, Args = r :: L ∧ ValX Q B w₀ K env h s S w (callMethod r name L.toArray) v := by
  unfold asMethod at hx
  split at hx
  · rename_i ad
    obtain ⟨V, rfl, hV⟩ := hA.one
    have := hV.raw1_inv
    subst this
    refine ⟨_, [], rfl, ?_⟩
    split at hx
    · rename_i hc
      obtain ⟨rfl, hc⟩ := hc
      cases hx
      rcases hc with rfl | rfl
      · exact .still hs (peel_does (cKind 268 (.inl rfl)) ⟨⟨_, rfl⟩, trivial⟩ (.pure _ _)) (.int _ _)
      · exact .still hs (peel_does (cKind 143 (.inr rfl)) ⟨⟨_, rfl⟩, trivial⟩ (.pure _ _)) (.int _ _)
    · split at hx
      · rename_i hc
        obtain ⟨rfl, rfl⟩ := hc
        cases hx
        exact .still hs (peel_does cElem ⟨⟨_, rfl⟩, trivial⟩ (.pure _ _)) (vr_rt _ _)
      · cases hx
  · rename_i ad bd
    obtain ⟨V, V', rfl, hV, hV'⟩ := hA.two
    have := hV.raw1_inv
    subst this
    have := hV'.raw1_inv
    subst this
    refine ⟨_, [_], rfl, ?_⟩
    split at hx
    · rename_i hc
      obtain ⟨rfl, rfl, rfl⟩ := hc
      cases hx
      exact .still hs (peel_does cImpl ⟨⟨_, rfl⟩, trivial⟩ (.pure _ _)) (.bool _)
    · split at hx
      · rename_i hc
        obtain ⟨rfl, rfl, rfl⟩ := hc
        cases hx
        exact .still hs (peel_does cAsg1 ⟨⟨_, rfl⟩, trivial⟩ (.pure _ _)) (.bool _)
      · split at hx
        · rename_i hc
          obtain ⟨rfl, rfl, rfl⟩ := hc
          cases hx
          exact .still hs (peel_does cAsg2 ⟨⟨_, rfl⟩, trivial⟩ (.pure _ _)) (.bool _)
        · cases hx
  · cases hx

/-- THE ORACLE FOR errors.As's FUNCTIONS. -/
theorem asExt_sound {op : Op} {args : List AV} (hx : asExt Q op args h = some (v, h')) : SndO Q op args h v h' := by
  intro B w₀ K env s S w a o fn hop hA hs
  unfold asExt at hx
  split at hx
  · rename_i c
    split at hx
    · rename_i f hcal
      have hops : (Op.call c).operands.toList.map a.eval = a.eval (.func f) :: (c.args.map a.eval).toList := by
        simp [Op.operands, Call.operands, hcal]
      rw [hops] at hA
      cases hA with
      | cons _ hA =>
        refine ValX.op (fun {V w'} hd => ?_) fn (asFn_sound hx hA hs)
        unfold execOp
        simp only [hop]
        refine DoesX.bind (w' := w) (v := { target := .fn (.func f) #[], args := c.args.map a.eval }) ?_ ?_
        · refine (Ret.does (P := Q) (s := resolve a.eval c o.type) ?_ w).x
          unfold resolve
          simp only [hcal]
          have : Deferred.ofValue (a.eval (.func f)) (c.args.map a.eval) = pure { target := .fn (.func f) #[], args := c.args.map a.eval } := by
            simp [Deferred.ofValue, Act.eval]
          rw [this]
          exact .pure _
        · simp only [invoke, Array.append_empty]
          exact hd
    · rename_i r name hcal
      obtain ⟨v1, h1, h2⟩ := Option.map_eq_some_iff.1 hx
      cases h2
      have hops : (Op.call c).operands.toList.map a.eval = a.eval r :: (c.args.map a.eval).toList := by
        simp [Op.operands, Call.operands, hcal]
      rw [hops] at hA
      obtain ⟨rv, L, e1, hv⟩ := asMethod_sound h1 hA hs
      cases e1
      refine ValX.op (fun {V w'} hd => ?_) fn hv
      unfold execOp
      simp only [hop]
      refine DoesX.bind (w' := w) (v := { target := .fn (.method name) #[], args := #[a.eval r] ++ c.args.map a.eval }) ?_ ?_
      · refine (Ret.does (P := Q) (s := resolve a.eval c o.type) ?_ w).x
        unfold resolve
        simp only [hcal]
        exact .pure _
      · simp only [invoke]
        have h0 : (#[a.eval r] ++ c.args.map a.eval)[0]? = some (a.eval r) := by
          rw [Array.getElem?_append_left (by simp)]; rfl
        have h1 : (#[a.eval r] ++ c.args.map a.eval).extract 1 (#[a.eval r] ++ c.args.map a.eval).size = c.args.map a.eval := by
          apply Array.ext'
          simp
          exact List.take_of_length_le (by simp)
        simp only [h0, h1]
        exact hd
    · cases hx
  · cases hx
end
end
end Go.Cx

/-
  THE GOROUTINE scan.pieces, AT THE ONE TEXT THAT alive SCANS: it sends it, closes the channel and leaves.
-/
namespace Go.Cx
noncomputable section
open Go Go.Proofs Go.Conc

def nx : GStep → Goroutine
  | .go g _ _ => g
  | .comm g _ _ _ _ _ => g
  | _ => default
noncomputable abbrev nxt (g : Goroutine) : Goroutine := nx (stepG Q false g default)
noncomputable def it : Nat → Goroutine → Goroutine
  | 0, g => g
  | n + 1, g => it n (nxt g)
def StepsOk : Nat → Goroutine → Prop
  | 0, _ => True
  | n + 1, g => g.status = .running ∧ (∀ w, stepG Q false g w = .go (nxt g) w #[]) ∧ StepsOk n (nxt g)
theorem snd_steps {c m : Nat} {vs : List Value} : ∀ {n : Nat} {g : Goroutine}, StepsOk n g → Snd Q c m vs (it n g) → Snd Q c (m + n) vs g
  | 0, _, _, h => h
  | n + 1, _, ⟨h1, h2, h3⟩, h => .step h1 h2 (snd_steps (n := n) h3 h)
theorem quit_steps : ∀ {n : Nat} {g : Goroutine}, StepsOk n g → (it n g).status = .finished → QuitsIn Q n g
  | 0, _, _, h => h
  | n + 1, _, ⟨h1, h2, h3⟩, h => .inr ⟨h1, _, h2, quit_steps (n := n) h3 h⟩

/-- "let it be" -/
def leb : List UInt8 := [108, 101, 116, 32, 105, 116, 32, 98, 101]
noncomputable def pc0 (c : Nat) : Goroutine := born Q { target := .fn (.func 76) #[], args := #[.string ⟨leb.toArray⟩, .chan (some c)] }
noncomputable def pc1 (c : Nat) : Goroutine := it 17 (pc0 c)
noncomputable def pc2 (c : Nat) : Goroutine := nxt (pc1 c)
noncomputable def pc3 (c : Nat) : Goroutine := Conc.served (pc2 c) undef
noncomputable def pc4 (c : Nat) : Goroutine := it 3 (pc3 c)
noncomputable def pc5 (c : Nat) : Goroutine := { pc4 c with frame := (pc4 c).frame.finish (.tuple #[]) }
theorem ok0 (c : Nat) : StepsOk 17 (pc0 c) := ⟨by kernel_rfl, fun w => by kernel_rfl, by kernel_rfl, fun w => by kernel_rfl, by kernel_rfl, fun w => by kernel_rfl, by kernel_rfl, fun w => by kernel_rfl, by kernel_rfl, fun w => by kernel_rfl, by kernel_rfl, fun w => by kernel_rfl, by kernel_rfl, fun w => by kernel_rfl, by kernel_rfl, fun w => by kernel_rfl, by kernel_rfl, fun w => by kernel_rfl, by kernel_rfl, fun w => by kernel_rfl, by kernel_rfl, fun w => by kernel_rfl, by kernel_rfl, fun w => by kernel_rfl, by kernel_rfl, fun w => by kernel_rfl, by kernel_rfl, fun w => by kernel_rfl, by kernel_rfl, fun w => by kernel_rfl, by kernel_rfl, fun w => by kernel_rfl, by kernel_rfl, fun w => by kernel_rfl, trivial⟩
def zOf : GStep → Value
  | .comm _ cs _ _ _ _ => (cs.getD 0 { chan := undef, send := none, zero := undef }).zero
  | _ => undef
theorem ok1 (c : Nat) : ∀ w, stepG Q false (pc1 c) w = .comm (pc2 c) #[scase c (.string ⟨leb.toArray⟩) (zOf (stepG Q false (pc1 c) default))] true .send w #[] := fun w => by kernel_rfl
theorem ok1' (c : Nat) : (pc1 c).status = .running := by kernel_rfl
theorem ok3 (c : Nat) : StepsOk 3 (pc3 c) := ⟨by kernel_rfl, fun w => by kernel_rfl, by kernel_rfl, fun w => by kernel_rfl, by kernel_rfl, fun w => by kernel_rfl, trivial⟩
theorem ok4' (c : Nat) : (pc4 c).status = .running := by kernel_rfl
theorem ok4'' (c : Nat) : mayWake Q (pc4 c) = true := by kernel_rfl
theorem ok5 (c : Nat) : StepsOk 4 (pc5 c) := ⟨by kernel_rfl, fun w => by kernel_rfl, by kernel_rfl, fun w => by kernel_rfl, by kernel_rfl, fun w => by kernel_rfl, by kernel_rfl, fun w => by kernel_rfl, trivial⟩
def opsOf : List Item → Array Oper
  | .inRegion ops _ :: _ => ops
  | _ => #[]
noncomputable def ops4 (c : Nat) : Array Oper := opsOf (pc4 c).frame.todo
noncomputable def act4 (c : Nat) : Act := { tmps := (pc4 c).frame.tmps, defers := (pc4 c).frame.defers }
theorem ok4 (c : Nat) : pc4 c = G ((pc4 c).frame.at (act4 c) (.inRegion (ops4 c) [1] :: (pc4 c).frame.todo.tail)) (pc4 c).callers := by kernel_rfl
theorem ok5' (c : Nat) : G ((pc4 c).frame.at ((act4 c).put ((ops4 c).getD 1 default).dst (.tuple #[])) (.inRegion (ops4 c) [] :: (pc4 c).frame.todo.tail)) (pc4 c).callers = pc5 c := by kernel_rfl
theorem ops4_1 (c : Nat) : (ops4 c)[1]? = some ((ops4 c).getD 1 default) := by kernel_rfl
theorem want4 (c : Nat) : Region.wanted ((ops4 c).getD 1 default) (yielded (ops4 c) (act4 c).tmps) = true := by kernel_rfl
theorem kind4 (c : Nat) : ((pc4 c).frame.kind == .early) = false := by kernel_rfl
theorem exec4 (c : Nat) : execOp (act4 c).eval ((ops4 c).getD 1 default) = (do pure (Next.value (← Builtin.close_ #[246] 0 #[.chan (some c)]))) := by kernel_rfl
theorem seen4 (c : Nat) : seen Q (pc4 c).frame.fn #[⟨.obj c, false, true⟩, ⟨.obj c, true, true⟩] = #[⟨.obj c, false, true⟩, ⟨.obj c, true, true⟩] := by kernel_rfl
theorem close_of {P : Program} {g g' : Goroutine} {b : Frame} {a : Act} {ops : Array Oper} {k : List Item} {cs : List Frame} {o : Oper} {w w' : World} {es : Array Event} (hg : g = G (b.at a (.inRegion ops [1] :: k)) cs)
    (hg' : G (b.at (a.put o.dst (.tuple #[])) (.inRegion ops [] :: k)) cs = g') (ho : ops[1]? = some o) (hw : Region.wanted o (yielded ops a.tmps) = true) (hk : b.kind ≠ .early) (hr : (execOp a.eval o).run P w = .ok (.value (.tuple #[])) w')
    (hl : listed P b.fn a o w = es) : stepG P false g w = .go g' w' es := by
  subst hg; subst hg'; subst hl
  exact stepG_value ho hw hk hr
theorem run_close {c : Nat} {w : World} {s r : Nat} {tm : Bool} (h : w.heap[c]? = some (.chan 0 #[] false s r tm)) : stepG Q false (pc4 c) w = .go (pc5 c) (w.shut c s r tm) #[⟨.obj c, false, true⟩, ⟨.obj c, true, true⟩] := by
  have hr : (execOp (act4 c).eval ((ops4 c).getD 1 default)).run Q w = .ok (.value (.tuple #[])) (w.shut c s r tm) := by
    rw [exec4]
    simp only [Sem.run_bind, run_close_open #[246] 0 h]
    rfl
  have hk : (pc4 c).frame.kind ≠ .early := fun e => by
    have := kind4 c
    rw [e] at this
    cases this
  have he : (execOp (act4 c).eval ((ops4 c).getD 1 default)).events Q w #[] = #[⟨.obj c, false, true⟩, ⟨.obj c, true, true⟩] := by
    rw [exec4]
    simp only [Sem.events_bind, run_close_open #[246] 0 h, events_close_open #[246] 0 h, Result.evThen_ok, Sem.events_pure]
    rfl
  have hl : listed Q (pc4 c).frame.fn (act4 c) ((ops4 c).getD 1 default) w = #[⟨.obj c, false, true⟩, ⟨.obj c, true, true⟩] := by
    unfold listed
    rw [he]
    exact seen4 c
  exact close_of (ok4 c) (ok5' c) (ops4_1 c) (want4 c) hk hr hl
theorem ok6 (c : Nat) : (it 4 (pc5 c)).status = .finished := by kernel_rfl
theorem pieces_snd (c : Nat) : ∃ m, Snd Q c m [.string ⟨leb.toArray⟩] (pc0 c) := by
  have h5 : QuitsIn Q 4 (pc5 c) := quit_steps (ok5 c) (ok6 c)
  have h4 : Snd Q c 4 [] (pc4 c) := .close (ok4' c) (ok4'' c) (fun w s r tm h => run_close h) h5
  have h3 : Snd Q c (4 + 3) [] (pc3 c) := snd_steps (ok3 c) h4
  have h1 : Snd Q c 0 [.string ⟨leb.toArray⟩] (pc1 c) := .send (ok1' c) (ok1 c) h3
  exact ⟨_, snd_steps (ok0 c) h1⟩

/-- The oracle for a goroutine that is started. -/
def piecesGo (f : FuncId) (args : List AV) : Option (Nat × List AV) :=
  match Nat.beq f 76 with
  | false => none
  | true => match args with
    | [.str l, .chan (some b)] => match eqvs [.str l] [.str leb] with
      | true => some (b, [.str l])
      | false => none
    | _ => none
theorem piecesGo_sound {f : FuncId} {args : List AV} {b : Nat} {vs : List AV} {env : Env} {Args : Array Value} (h : piecesGo f args = some (b, vs)) (hA : VRs env args Args.toList) (hd : env.blk b ≠ .dead) :
    ∃ c Vs m, env.blk b = .at c 0 ∧ VRs env vs Vs ∧ Snd Q c m Vs (born Q { target := .fn (.func f) #[], args := Args }) := by
  unfold piecesGo at h
  split at h
  · cases h
  · rename_i hf
    have hf := Nat.eq_of_beq_eq_true hf
    subst hf
    split at h
    · rename_i l b'
      split at h
      · rename_i he
        have he := eqvs_eq he
        cases he
        cases h
        obtain ⟨Args⟩ := Args
        obtain ⟨U, V, e, hU, hV⟩ := VRs.two (show VRs env _ Args from hA)
        subst e
        have := hU.inj_str
        subst this
        cases hV with
        | chan hc =>
          obtain ⟨m, hm⟩ := pieces_snd _
          exact ⟨_, [.string ⟨leb.toArray⟩], m, hc, .cons hU .nil, hm⟩
        | chanD hc => exact absurd hc hd
      · cases h
    · cases h
end
end Go.Cx

/-
  THE ORACLES TOGETHER, and tables of contracts for this program.
-/
namespace Go.Cx
noncomputable section
open Go Go.Proofs Go.Conc

def nums (k : IntKind) (l : List Nat) : List AV := l.map fun n => .int k (.ofNat n)

theorem q_mixed : Q.follows .mixedOrders = true := by kernel_rfl
/-- The oracles, with this table of contracts. -/
noncomputable def orc (l : List (FuncId × List Tab)) : Orc := { call := tabCall (tabOf l), go := piecesGo, ext := asExt Q }
def TabsOk (l : List (FuncId × List Tab)) : Prop := ∀ p ∈ l, ∀ x ∈ p.2, x.Ok Q p.1
def RowOk (f : FuncId) (l : List Tab) : Prop := ∀ x ∈ l, x.Ok Q f
theorem TabsOk.nil : TabsOk [] := fun p hp => by simp at hp
theorem TabsOk.cons {f : FuncId} {x : List Tab} {l : List (FuncId × List Tab)} (h : RowOk f x) (t : TabsOk l) : TabsOk ((f, x) :: l) := fun p hp => by
  rcases List.mem_cons.1 hp with rfl | hp
  · exact h
  · exact t p hp
theorem RowOk.nil (f : FuncId) : RowOk f [] := fun p hp => by simp at hp
theorem RowOk.cons {f : FuncId} {x : Tab} {l : List Tab} (h : x.Ok Q f) (t : RowOk f l) : RowOk f (x :: l) := fun p hp => by
  rcases List.mem_cons.1 hp with rfl | hp
  · exact h
  · exact t p hp
theorem tabOk {c : Con} (h : c.Ok Q) (deep : Nat) : Tab.Ok Q c.f { c := c, g := 7, deep := deep } := ⟨rfl, h, by rw [show Q.globals.size = 7 from by kernel_rfl]; exact Nat.le_refl 7⟩
theorem tabOk' {c : Con} (h : c.Ok Q) (deep : Nat) : Tab.Ok Q c.f { c := c, g := 12, deep := deep } := ⟨rfl, h, by rw [show Q.globals.size = 7 from by kernel_rfl]; exact (by decide : 7 ≤ 12)⟩
theorem orc_ok {l : List (FuncId × List Tab)} (h : TabsOk l) (Post : Value → World → Prop) : OrcS Q Post (orc l) where
  ext := asExt_sound
  call := fun _ hx => tabCall_sound (tabOf_sound h) hx
  go := fun hx hA hd => piecesGo_sound hx hA hd
end
end Go.Cx

