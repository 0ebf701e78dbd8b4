/-
  THE INTERPRETER IS SOUND: control. ..
-/
import Derived.Conc.Own2
import Derived.Conc.Own5
import Derived.Orders
import Derived.Conc.CompanyDraw
import Derived.Conc.Own3
import Derived.Conc.Own4
import Derived.Test.YtdhakdifgcepoaaGreatDoorM02
/-
  THE INTERPRETER IS SOUND: control.
-/
namespace Go.Cx
noncomputable section
open Go Go.Conc

section
variable (P : Program) (Post : Value → World → Prop)

def After (S : Option (Nat × List Value)) (b : Frame) (k : List Item) (cs : List Frame) : Ex → Act → World → Prop
  | .normal, a, w => Runs P Post S (G (b.at a k) cs) w
  | .exit id, a, w => ∃ k', exitTo id k = some k' ∧ Runs P Post S (G (b.at a k') cs) w
  | .ret, a, w => ∀ todo, Runs P Post S (G { b.at a todo with mode := .returning } cs) w

/-- The slots; those of D are not filled yet. -/
structure TR (env : Env) (D : Nat → Prop) (t : T AV) (n : Nat) (a : Act) : Prop where
  defers : a.defers = []
  size : a.tmps.size = n
  val : ∀ d, d < n → ¬ D d → VR env ((t.get d).getD (.tuple [])) (a.tmps.getD d undef)
  out : ∀ d, n ≤ d → t.get d = none
def noD : Nat → Prop := fun _ => False

/-- A call of f by the interpreter is borne out. -/
def SndF (f : FuncId) (args : List AV) (h : AH) (s : Option (Nat × List AV)) (v : AV) (h' : AH) (s' : Option (Nat × List AV)) : Prop :=
  ∀ (B : Nat) (w₀ : World) (K : List Nat) (env : Env) (Args : Array Value) (S : Option (Nat × List Value)) (w : World) (fr : Frame) (cs : List Frame), VRs env args Args.toList → HS P B w₀ K env h s S w →
    (∀ env' V S' w', env.le env' → VR env' v V → HS P B w₀ K env' h' s' S' w' → Runs P Post S' (G (fr.finish V) cs) w') →
    Runs P Post S (G (Frame.enter P f Args .normal) (fr :: cs)) w

/-- An operation of the runtime's own is borne out. -/
def SndO (op : Op) (args : List AV) (h : AH) (v : AV) (h' : AH) : Prop :=
  ∀ (B : Nat) (w₀ : World) (K : List Nat) (env : Env) (s : Option (Nat × List AV)) (S : Option (Nat × List Value)) (w : World) (a : Act) (o : Oper) (fn : FuncId), o.op = op → VRs env args (op.operands.toList.map a.eval) → HS P B w₀ K env h s S w →
    ∃ env' V w', env.le env' ∧ (execOp a.eval o).run P w = .ok (.value V) w' ∧ VR env' v V ∧ HS P B w₀ K env' h' s S w' ∧ Own w w' (listed P fn a o w)

structure OrcS (X : Orc) : Prop where
  ext : ∀ {op args h v h'}, X.ext op args h = some (v, h') → SndO P op args h v h'
  call : ∀ {f args h v h'} (s : Option (Nat × List AV)), X.call f args h s = some (v, h') → SndF P Post f args h s v h' s
  go : ∀ {f args b vs env} {Args : Array Value}, X.go f args = some (b, vs) → VRs env args Args.toList → env.blk b ≠ .dead →
    ∃ c Vs m, env.blk b = .at c 0 ∧ VRs env vs Vs ∧ Snd P c m Vs (born P { target := .fn (.func f) #[], args := Args })

def SndC (c : Code) (st : AS) (e : Ex) (st' : AS) : Prop :=
  ∀ (B : Nat) (w₀ : World) (K : List Nat) (env : Env) (a : Act) (S : Option (Nat × List Value)) (w : World) (b : Frame) (k : List Item) (cs : List Frame), b.kind ≠ .early → TR env noD st.t st.n a → HS P B w₀ K env st.h st.s S w →
    (∀ env' a' S' w', env.le env' → TR env' noD st'.t st'.n a' → HS P B w₀ K env' st'.h st'.s S' w' → After P Post S' b k cs e a' w') →
    Runs P Post S (G (b.at a (.code c :: k)) cs) w

def SndI (D : Nat → Prop) (ops : Array Oper) (todo : List Nat) (st : AS) (st' : AS) : Prop :=
  ∀ (B : Nat) (w₀ : World) (K : List Nat) (env : Env) (a : Act) (S : Option (Nat × List Value)) (w : World) (b : Frame) (k : List Item) (cs : List Frame) (rest : List Nat), b.kind ≠ .early → TR env D st.t st.n a → HS P B w₀ K env st.h st.s S w →
    (∀ env' a' S' w', env.le env' → TR env' D st'.t st'.n a' → HS P B w₀ K env' st'.h st'.s S' w' → Runs P Post S' (G (b.at a' (.inRegion ops rest :: k)) cs) w') →
    Runs P Post S (G (b.at a (.inRegion ops (todo ++ rest) :: k)) cs) w
end

section
variable {P : Program} {Post : Value → World → Prop} {B : Nat} {w₀ : World} {K : List Nat}

theorem own_idle (w : World) : Own w w #[] := .of_same rfl (by simp) (by simp)

/-- A step that leaves the world. -/
theorem Runs.ctl {S : Option (Nat × List Value)} {g g' : Goroutine} {w : World} (hr : g.status = .running) (h : ∀ w₁, stepG P true g w₁ = .go g' w₁ #[]) (n : Runs P Post S g' w) : Runs P Post S g w :=
  .go hr fun w₁ h₁ => ⟨g', w₁, #[], h w₁, own_idle w₁, n.rely h₁⟩

theorem TR.mono {env env' : Env} {D : Nat → Prop} (hle : env.le env') {t : T AV} {n : Nat} {a : Act} (h : TR env D t n a) : TR env' D t n a := ⟨h.defers, h.size, fun d hd hD => (h.val d hd hD).mono hle, h.out⟩

theorem vr_undef (env : Env) : VR env (.tuple []) undef := .tuple .nil

/-- A slot is filled; it may have been one of those that were not. -/
theorem TR.put' {env : Env} {D D' : Nat → Prop} {st st' : AS} {a : Act} {dst : Option Tmp} {v : AV} {V : Value} (h : TR env D st.t st.n a) (hp : st.put dst v = some st') (hv : VR env v V) (hD : ∀ d, D d → D' d ∨ dst = some d) :
    TR env D' st'.t st'.n (a.put dst V) ∧ st'.h = st.h ∧ st'.s = st.s := by
  unfold AS.put at hp
  cases dst with
  | none =>
    simp at hp; subst hp
    refine ⟨⟨h.defers, h.size, fun d hd hd' => h.val d hd fun hx => ?_, h.out⟩, rfl, rfl⟩
    rcases hD d hx with h1 | h1
    · exact hd' h1
    · cases h1
  | some d =>
    simp only at hp
    split at hp
    · rename_i hd
      simp only [Option.some.injEq] at hp
      subst hp
      refine ⟨⟨h.defers, by simp [Act.put, h.size], fun d' hd' hD' => ?_, fun d' hd' => ?_⟩, rfl, rfl⟩
      · simp only [Act.put, T.get_set]
        by_cases e : d = d'
        · subst e
          simp [h.size, hd, hv]
        · have := h.val d' hd' fun hx => by
            rcases hD d' hx with h1 | h1
            · exact hD' h1
            · cases h1; exact e rfl
          simp only [e, if_false]
          simpa [Array.getD_eq_getD_getElem?, Array.getElem?_setIfInBounds_ne e] using this
      · simp only [T.get_set]
        have hne : d ≠ d' := fun e => by subst e; exact Nat.lt_irrefl _ (Nat.lt_of_lt_of_le hd hd')
        rw [if_neg hne]
        exact h.out d' hd'
    · cases hp
theorem TR.put {env : Env} {D : Nat → Prop} {st st' : AS} {a : Act} {dst : Option Tmp} {v : AV} {V : Value} (h : TR env D st.t st.n a) (hp : st.put dst v = some st') (hv : VR env v V) : TR env D st'.t st'.n (a.put dst V) ∧ st'.h = st.h ∧ st'.s = st.s :=
  h.put' hp hv fun _ hd => .inl hd

theorem absS_vr {v : Value} {a : AV} (env : Env) (h : absS v = some a) : VR env a v ∧ a.scalar = true := by
  unfold absS at h
  split at h <;> first | (cases h; done) | (simp only [Option.some.injEq] at h; subst h; exact ⟨by constructor, rfl⟩)

theorem absL_vr (env : Env) : ∀ {l : List Value} {m : List AV}, absL l = some m → VRs env m l ∧ m.all AV.scalar = true
  | [], m, h => by simp [absL] at h; subst h; exact ⟨.nil, rfl⟩
  | v :: l, m, h => by
    simp only [absL] at h
    split at h
    · rename_i x y hx hy
      simp only [Option.some.injEq] at h
      subst h
      obtain ⟨h1, h2⟩ := absS_vr env hx
      obtain ⟨h3, h4⟩ := absL_vr env hy
      exact ⟨.cons h1 h3, by simp [h2, h4]⟩
    · cases h

theorem absV_vr {v : Value} {a : AV} (env : Env) (h : absV v = some a) : VR env a v := by
  unfold absV at h
  split at h
  · rename_i cs
    obtain ⟨l, hl, rfl⟩ := Option.map_eq_some_iff.1 h
    obtain ⟨h1, h2⟩ := absL_vr env hl
    have := VR.agg h1 h2
    simpa using this
  · rename_i cs
    split at h
    · rename_i he
      simp only [Option.some.injEq] at h
      subst h
      have : cs = #[] := by simpa using he
      subst this
      exact .tuple .nil
    · cases h
  · exact (absS_vr env h).1

/-- The operands, but for the slots that are not filled. -/
noncomputable def restr (D : Nat → Prop) (ρ : Operand → Option AV) : Operand → Option AV
  | .tmp t => haveI := Classical.propDecidable (D t); if D t then none else ρ (.tmp t)
  | x => ρ x
/-- What an operation looks at is filled. -/
def Sees (D : Nat → Prop) (ops : Array Oper) (o : Oper) : Prop := (∀ t, .tmp t ∈ o.op.operands.toList → ¬ D t) ∧ ∀ g w d, o.guard = some (g, w) → (ops[g]?).bind (·.dst) = some d → ¬ D d
theorem sees_noD (ops : Array Oper) (o : Oper) : Sees noD ops o := ⟨fun _ _ h => h, fun _ _ _ _ _ h => h⟩
theorem restr_aop {D : Nat → Prop} {ops : Array Oper} {o : Oper} (hd : Sees D ops o) (ρ : Operand → Option AV) (h : AH) : aop P (restr D ρ) o h = aop P ρ o h := by
  refine aop_congr fun x hx => ?_
  cases x with
  | tmp t => simp only [restr]; rw [if_neg (hd.1 t hx)]
  | _ => rfl

theorem restr_ext {X : Orc} {D : Nat → Prop} {ops : Array Oper} {o : Oper} (hd : Sees D ops o) (ρ : Operand → Option AV) (h : AH) : aExt P X (restr D ρ) o h = aExt P X ρ o h := by
  have : evalAll (restr D ρ) o.op.operands.toList = evalAll ρ o.op.operands.toList := evalAll_congr fun x hx => by
    cases x with
    | tmp t => simp only [restr]; rw [if_neg (hd.1 t hx)]
    | _ => rfl
  unfold aExt
  rw [this]

theorem TR.evr {env : Env} {D : Nat → Prop} {st : AS} {s : Option (Nat × List AV)} {a : Act} {S : Option (Nat × List Value)} {w : World} (h : TR env D st.t st.n a) (hs : HS P B w₀ K env st.h s S w) : EvR env (restr D (aRho P.globals.size st.t)) a := by
  intro x v hx
  cases x with
  | tmp t =>
    simp only [restr] at hx
    split at hx
    · cases hx
    · rename_i hD
      simp only [aRho, Option.some.injEq] at hx
      subst hx
      simp only [Act.eval]
      by_cases ht : t < st.n
      · exact h.val t ht hD
      · rw [h.out t (Nat.le_of_not_lt ht)]
        have : a.tmps.getD t undef = undef := by
          rw [Array.getD_eq_getD_getElem?, Array.getElem?_eq_none (by rw [h.size]; exact Nat.le_of_not_lt ht)]; rfl
        rw [this]
        exact vr_undef env
  | const v' => exact absV_vr env hx
  | global g =>
    simp only [restr, aRho] at hx
    split at hx
    · rename_i hg
      simp only [Option.some.injEq] at hx
      subst hx
      have := VR.ptr (o := 0) (hs.glob g hg)
      simpa [Act.eval] using this
    · cases hx
  | func f =>
    simp only [restr, aRho, Option.some.injEq] at hx
    subst hx
    exact VR.func (F := []) (C := []) .nil .nil

theorem TR.yield {env : Env} {D : Nat → Prop} {st : AS} {a : Act} (h : TR env D st.t st.n a) (ops : Array Oper) (j : Nat) (hj : ∀ d, (ops[j]?).bind (·.dst) = some d → ¬ D d) : yielded ops a.tmps j = aYield ops st.t j := by
  unfold yielded aYield
  cases hd : (ops[j]?).bind (·.dst) with
  | none => rfl
  | some d =>
    simp only [Option.bind_some]
    by_cases hlt : d < st.n
    · have hv := h.val d hlt (hj d hd)
      have hsz : d < a.tmps.size := by rw [h.size]; exact hlt
      have e1 : a.tmps[d]? = some (a.tmps.getD d undef) := by simp [Array.getD_eq_getD_getElem?, hsz]
      rw [e1]
      generalize a.tmps.getD d undef = V at *
      cases hx : st.t.get d with
      | none =>
        rw [hx] at hv
        simp only [Option.getD_none] at hv
        cases hv
        rfl
      | some x =>
        rw [hx] at hv
        simp only [Option.getD_some] at hv
        cases hv <;> rfl
    · rw [h.out d (Nat.le_of_not_lt hlt), Array.getElem?_eq_none (by rw [h.size]; exact Nat.le_of_not_lt hlt)]

theorem TR.wanted {env : Env} {D : Nat → Prop} {st : AS} {a : Act} (h : TR env D st.t st.n a) {ops : Array Oper} {o : Oper} (hd : Sees D ops o) : Region.wanted o (yielded ops a.tmps) = aWanted ops o st.t := by
  unfold Region.wanted aWanted
  cases hg : o.guard with
  | none => rfl
  | some x => obtain ⟨j, want⟩ := x; simp only [h.yield ops j fun d hdd => hd.2 j want d hg hdd]


/-! ### one operation -/
theorem runs_op {S : Option (Nat × List Value)} {b : Frame} {a : Act} {k : List Item} {cs : List Frame} {w : World} {ops : Array Oper} {i : Nat} {rest : List Nat} {o : Oper}
    (ho : ops[i]? = some o) (hw : Region.wanted o (yielded ops a.tmps) = true) (hk : b.kind ≠ .early)
    (h : ∀ w₁, Rel (act S) w w₁ → ∃ V w', ((execOp a.eval o).run P w₁ = .ok (.value V) w' ∨ ((execOp a.eval o).run P w₁ = .ok .skip w' ∧ V = undef)) ∧ Own w₁ w' (listed P b.fn a o w₁) ∧
      Runs P Post S (G (b.at (a.put o.dst V) (.inRegion ops rest :: k)) cs) w') :
    Runs P Post S (G (b.at a (.inRegion ops (i :: rest) :: k)) cs) w := by
  refine .go rfl fun w₁ h₁ => ?_
  obtain ⟨V, w', hr, hown, hrun⟩ := h w₁ h₁
  rcases hr with hr | ⟨hr, rfl⟩
  · exact ⟨_, _, _, stepG_value ho hw hk hr, hown, hrun⟩
  · exact ⟨_, _, _, stepG_none ho hw hk hr, hown, hrun⟩

theorem enter_call {f : FuncId} (h : aCallable P f = true) : ∃ fn c, P.funcs[f]? = some fn ∧ (fn.name == "runtime.NumGoroutine") = false ∧ fn.body = some c := by
  unfold aCallable at h
  cases hf : P.funcs[f]? with
  | none => simp [hf] at h
  | some fn =>
    simp only [hf, Bool.and_eq_true, Bool.not_eq_true'] at h
    obtain ⟨h1, h2⟩ := h
    cases hb : fn.body with
    | none => simp [hb] at h2
    | some c => exact ⟨fn, c, rfl, h1, hb⟩

theorem HS.setChan {env : Env} {h : AH} {s s' : Option (Nat × List AV)} {S S' : Option (Nat × List Value)} {w : World} {b c st st' : Nat} (hs : HS P B w₀ K env h s S w) (hb : h.t.get b = some (.chan st)) (hat : env.blk b = .at c 0)
    (hst : st' ≠ 0) (hsnd : SR env { h with t := h.t.set b (.chan st') } s' S') (hact : ∀ k, (h.t.set b (.chan st')).get k = some (.chan 1) → ∃ vs, s' = some (k, vs)) :
    HS P B w₀ K env { h with t := h.t.set b (.chan st') } s' S' w := by
  refine ⟨hs.tape, hs.os, hs.output, hs.size, hs.base, hs.bound, hs.gb, hs.inj, fun k hk => ?_, fun k hk => ?_, fun k bk c' sh' hk hat' => ?_, fun k hk => ?_, hs.glob, hsnd, hact, hs.hol⟩
  · simp only [T.get_set] at hk
    by_cases e : b = k
    · simp [e] at hk
    · simp only [e, if_false] at hk; exact hs.unal k hk
  · simp only [T.get_set]
    by_cases e : b = k
    · subst e; have := hs.next b hk; rw [hb] at this; cases this
    · simp only [e, if_false]; exact hs.next k hk
  · simp only [T.get_set] at hk
    by_cases e : b = k
    · subst e
      simp only [if_true, Option.some.injEq] at hk
      subst hk
      obtain ⟨h1, h2, h3, _⟩ := hs.rel _ _ _ _ hb hat'
      exact ⟨h1, h2, h3, fun e => absurd e hst⟩
    · simp only [e, if_false] at hk
      exact hs.rel k bk c' sh' hk hat'
  · simp only [T.get_set]
    by_cases e : b = k
    · subst e; rw [hat] at hk; cases hk
    · simp only [e, if_false]; exact hs.dead k hk

variable (X : Orc) (call : CallF)

/-- The interpreter's calls are borne out. -/
def CallS (P : Program) (Post : Value → World → Prop) (call : CallF) : Prop :=
  ∀ {f args h s v h' s'}, aCallable P f = true → call f args h s = some (v, h', s') → SndF P Post f args h s v h' s'

variable {X call}
theorem one_sound (hX : OrcS P Post X) (hC : CallS P Post call) {D : Nat → Prop} {ops : Array Oper} {i : Nat} {st st' : AS} (hD : ∀ o, ops[i]? = some o → Sees D ops o) (h1 : aOne P X call ops st i = some st') : SndI P Post D ops [i] st st' := by
  intro B w₀ K env a S w b k cs rest hk hT hH hn
  have hO : OpS P B w₀ K := opS
  unfold aOne at h1
  cases ho : ops[i]? with
  | none => simp [ho] at h1
  | some o =>
    simp only [ho] at h1
    simp only [List.singleton_append]
    have hDo := hD o ho
    rw [← restr_aop hDo, ← restr_ext hDo] at h1
    by_cases hw : aWanted ops o st.t = true
    · simp only [hw, if_true] at h1
      have hw' : Region.wanted o (yielded ops a.tmps) = true := by rw [hT.wanted hDo]; exact hw
      split at h1
      · -- a value
        rename_i v h ha
        refine runs_op ho hw' hk fun w₁ h₁ => ?_
        have hH₁ := hH.rely h₁
        obtain ⟨env', V, w', hle, hr, hv, hh, hown⟩ := hO.val b.fn ha (hT.evr hH₁) hH₁
        obtain ⟨hT', e1, e2⟩ := TR.put (st := { st with h := h }) (hT.mono hle) h1 hv
        exact ⟨V, w', .inl hr, hown, hn env' _ S w' hle hT' (by rw [e1, e2]; exact hh)⟩
      · -- nothing
        rename_i h ha
        refine runs_op ho hw' hk fun w₁ h₁ => ?_
        have hH₁ := hH.rely h₁
        obtain ⟨env', w', hle, hr, hh, hown⟩ := hO.skip b.fn ha (hT.evr hH₁) hH₁
        obtain ⟨hT', e1, e2⟩ := TR.put (st := { st with h := h }) (hT.mono hle) h1 (vr_undef env')
        exact ⟨undef, w', .inr ⟨hr, rfl⟩, hown, hn env' _ S w' hle hT' (by rw [e1, e2]; exact hh)⟩
      · -- a call
        rename_i f args h ha
        split at h1
        · rename_i v h' s' hc
          obtain ⟨rfl, hcal, Args, hargs, hrun⟩ := hO.call b.fn ha (hT.evr hH)
          obtain ⟨fn, c, hf, hname, hb⟩ := enter_call hcal
          refine .go rfl fun w₁ h₁ => ⟨_, _, _, stepG_enter ho hw' hk (hrun w₁).1, ?_, ?_⟩
          · rw [(hrun w₁).2]; exact own_idle _
          · refine hC hcal hc B w₀ K env Args S w₁ _ _ hargs (hH.rely h₁) fun env' V S' w' hle hv hh => ?_
            have hfin : (b.at a (.inRegion ops (i :: rest) :: k)).finish V = b.at (a.put o.dst V) (.inRegion ops rest :: k) := by rw [Frame.finish_at, ho]; rfl
            rw [hfin]
            obtain ⟨hT', e1, e2⟩ := TR.put (st := { st with h := h', s := s' }) (hT.mono hle) h1 hv
            exact hn env' _ S' w' hle hT' (by rw [e1, e2]; exact hh)
        · cases h1
      · -- a goroutine is started
        rename_i f args h ha
        split at h1
        · rename_i b0 vs hst hgo
          split at h1
          · rename_i hch
            obtain ⟨rfl, Args, hargs, hrun⟩ := hO.go b.fn ha (hT.evr hH)
            have hnd : env.blk b0 ≠ .dead := fun e => by have := hH.dead _ e; rw [hch] at this; cases this
            obtain ⟨c, Vs, m, hat, hvs, hsnd⟩ := hX.go hgo hargs hnd
            have hS : S = none := by
              have := hH.snd
              rw [hst] at this
              cases S with
              | none => rfl
              | some x => exact this.elim
            subst hS
            obtain ⟨_, _, _, hopen⟩ := hH.rel _ _ _ _ hch hat
            refine .spawn rfl (fun _ => G (b.at (a.put o.dst undef) (.inRegion ops rest :: k)) cs) (fun _ => born P { target := .fn (.func f) #[], args := Args }) (fun _ => #[]) (c := c) (vs := Vs) (fun w₁ h₁ => ⟨?_, own_idle _, rfl, ⟨m, hsnd⟩, ?_⟩) fun w₁ h₁ => ?_
            · rw [stepG_spawn ho hw' hk (hrun w₁).1 rfl, (hrun w₁).2]
            · obtain ⟨_, _, _, hopen⟩ := (hH.rely (S := none) h₁).rel _ _ _ _ hch hat
              exact hopen rfl
            · have hH₁ := hH.rely (S := none) h₁
              obtain ⟨hT', e1, e2⟩ := TR.put (st := { st with h := { st.h with t := st.h.t.set b0 (.chan 1) }, s := some (b0, vs) }) hT h1 (vr_undef env)
              refine hn env _ (some (c, Vs)) w₁ (Env.le_refl _) hT' ?_
              rw [e1, e2]
              rw [hst] at hH₁
              refine hH₁.setChan hch hat (by decide) ⟨hat, hvs, by simp [T.get_set]⟩ fun k hk => ?_
              simp only [T.get_set] at hk
              by_cases e : b0 = k
              · subst e; exact ⟨vs, rfl⟩
              · simp only [e, if_false] at hk
                obtain ⟨_, hx⟩ := hH₁.actv k hk
                cases hx
          · cases h1
        · cases h1
      · -- a receive
        rename_i b0 z h ha
        obtain ⟨rfl, ch, Z, hch, hz, hrun⟩ := hO.recv b.fn ha (hT.evr hH)
        have hfin : ∀ V, Conc.served (core (G (b.at a (.inRegion ops (i :: rest) :: k)) cs)) V = G (b.at (a.put o.dst V) (.inRegion ops rest :: k)) cs := fun V => by
          have : (b.at a (.inRegion ops (i :: rest) :: k)).finish V = b.at (a.put o.dst V) (.inRegion ops rest :: k) := by rw [Frame.finish_at, ho]; rfl
          rw [← this]; rfl
        have hsnd := hH.snd
        split at h1
        · rename_i b1 v vs hst
          split at h1
          · rename_i e
            subst e
            rw [hst] at hsnd
            match S, hsnd, hH, hn with
            | some (c, Vs'), hsnd, hH, hn =>
              obtain ⟨hat, hvs, hg⟩ := hsnd
              cases hvs with
              | @cons _ V _ Vs hv hvs =>
                have hch' : ch = .chan (some c) := by
                  cases hch with
                  | chan h' => rw [hat] at h'; cases h'; rfl
                  | chanD h' => rw [hat] at h'; cases h'
                subst hch'
                refine .recv rfl Z (fun _ => #[]) (fun w₁ h₁ => ⟨?_, own_idle _⟩) fun w₁ h₁ => ?_
                · rw [stepG_comm ho hw' hk (hrun w₁).1, (hrun w₁).2]; rfl
                · rw [hfin]
                  have hH₁ := hH.rely (S := some (c, V :: Vs)) h₁
                  obtain ⟨hT', e1, e2⟩ := TR.put (st := { st with s := some (b0, vs) }) hT h1 (.tuple (.cons hv (.cons (.bool true) .nil)))
                  refine hn env _ (some (c, Vs)) w₁ (Env.le_refl _) hT' ?_
                  rw [e1, e2]
                  rw [hst] at hH₁
                  exact ⟨hH₁.tape, hH₁.os, hH₁.output, hH₁.size, hH₁.base, hH₁.bound, hH₁.gb, hH₁.inj, hH₁.unal, hH₁.next, hH₁.rel, hH₁.dead, hH₁.glob, ⟨hat, hvs, hg⟩, (fun k hk => by
                    obtain ⟨vs', hx⟩ := hH₁.actv k hk
                    cases hx
                    exact ⟨vs, rfl⟩), hH₁.hol⟩
          · cases h1
        · rename_i b1 hst
          split at h1
          · rename_i e
            subst e
            rw [hst] at hsnd
            match S, hsnd, hH, hn with
            | some (c, Vs'), hsnd, hH, hn =>
              obtain ⟨hat, hvs, hg⟩ := hsnd
              cases hvs with
              | nil =>
                have hch' : ch = .chan (some c) := by
                  cases hch with
                  | chan h' => rw [hat] at h'; cases h'; rfl
                  | chanD h' => rw [hat] at h'; cases h'
                subst hch'
                refine .shut rfl Z (fun _ => #[]) (fun w₁ h₁ => ⟨?_, own_idle _⟩) fun w₁ h₁ => ?_
                · rw [stepG_comm ho hw' hk (hrun w₁).1, (hrun w₁).2]; rfl
                · rw [hfin]
                  have hH₁ := hH.rely (S := some (c, [])) h₁
                  obtain ⟨hT', e1, e2⟩ := TR.put (st := { st with h := { st.h with t := st.h.t.set b0 (.chan 2) }, s := none }) hT h1 (.tuple (.cons (hz env) (.cons (.bool false) .nil)))
                  refine hn env _ none w₁ (Env.le_refl _) hT' ?_
                  rw [e1, e2]
                  rw [hst] at hH₁
                  refine hH₁.setChan hg hat (by decide) trivial fun k hk => ?_
                  simp only [T.get_set] at hk
                  by_cases e : b0 = k
                  · subst e; simp at hk
                  · simp only [e, if_false] at hk
                    obtain ⟨_, hx⟩ := hH₁.actv k hk
                    cases hx
                    exact absurd rfl e
          · cases h1
        · cases h1
      · -- the runtime's own
        split at h1
        · rename_i v h hx
          unfold aExt at hx
          split at hx
          · cases hx
          · split at hx
            · rename_i l hl
              refine runs_op ho hw' hk fun w₁ h₁ => ?_
              have hH₁ := hH.rely h₁
              obtain ⟨env', V, w', hle, hr, hv, hh, hown⟩ := hX.ext hx B w₀ K env _ S w₁ a o b.fn rfl (evalAll_vrs (hT.evr hH₁) hl) hH₁
              obtain ⟨hT', e1, e2⟩ := TR.put (st := { st with h := h }) (hT.mono hle) h1 hv
              exact ⟨V, w', .inl hr, hown, hn env' _ S w' hle hT' (by rw [e1, e2]; exact hh)⟩
            · cases hx
        · cases h1
    · simp only [hw] at h1
      have hw' : Region.wanted o (yielded ops a.tmps) = false := by rw [hT.wanted hDo]; simpa using hw
      refine .ctl rfl (fun w₁ => stepG_unwanted ho hw') ?_
      obtain ⟨hT', e1, e2⟩ := hT.put (by simpa using h1) (vr_undef env)
      exact hn env _ S w (Env.le_refl _) hT' (by rw [e1, e2]; exact hH)


theorem text_sound (hX : OrcS P Post X) (hC : CallS P Post call) {ops : Array Oper} : ∀ {todo : List Nat} {st st' : AS}, aText P X call ops todo st = some st' → SndI P Post noD ops todo st st' := by
  intro todo
  induction todo with
  | nil =>
    intro st st' h B w₀ K env a S w b k cs rest hk hT hH hn
    simp [aText] at h
    subst h
    exact hn env a S w (Env.le_refl _) hT hH
  | cons i l ih =>
    intro st st' h B w₀ K env a S w b k cs rest hk hT hH hn
    simp only [aText] at h
    cases h1 : aOne P X call ops st i with
    | none => simp [h1] at h
    | some st1 =>
      simp only [h1] at h
      refine one_sound hX hC (fun o _ => sees_noD ops o) h1 B w₀ K env a S w b k cs (l ++ rest) hk hT hH fun env1 a1 S1 w1 hle1 hT1 hH1 => ?_
      exact ih h B w₀ K env1 a1 S1 w1 b k cs rest hk hT1 hH1 fun env2 a2 S2 w2 hle2 hT2 hH2 => hn env2 a2 S2 w2 (Env.le_trans hle1 hle2) hT2 hH2

end
end
end Go.Cx

/-
  A REGION WHOSE ORDER IS OPEN: WHAT THE STATIC CHECK SAYS.
-/
namespace Go.Cx
noncomputable section
open Go Go.Conc

section
variable {P : Program} {ops : Array Oper}

def EdgeOf (ops : Array Oper) (e j : Nat) : Prop := ∃ o, ops[j]? = some o ∧ e ∈ edges o
inductive Anc (ops : Array Oper) : Nat → Nat → Prop
  | edge {e j : Nat} (h : EdgeOf ops e j) : Anc ops e j
  | step {i e j : Nat} (h : EdgeOf ops e j) (h' : Anc ops i e) : Anc ops i j
def Down (ops : Array Oper) (S : Nat → Prop) : Prop := ∀ e j, EdgeOf ops e j → S j → S e
theorem anc_down {S : Nat → Prop} (hd : Down ops S) {i j : Nat} (h : Anc ops i j) : (∀ e, EdgeOf ops e j → S e) → S i := by
  induction h with
  | edge h => exact fun hs => hs _ h
  | step h _ ih => exact fun hs => ih fun e he => hd _ _ he (hs _ h)

theorem maskOf_bit {m : T Nat} {i : Nat} : ∀ {l : List Nat}, (maskOf m l).testBit i = true → ∃ e ∈ l, i = e ∨ ((m.get e).getD 0).testBit i = true
  | [], h => by simp [maskOf] at h
  | e :: l, h => by
    simp only [maskOf] at h
    have h : ((2 ^ e ||| (m.get e).getD 0) ||| maskOf m l).testBit i = true := h
    rw [Nat.testBit_or, Nat.testBit_or, Nat.testBit_two_pow] at h
    simp only [Bool.or_eq_true, decide_eq_true_eq] at h
    rcases h with (h | h) | h
    · exact ⟨e, by simp, .inl h.symm⟩
    · exact ⟨e, by simp, .inr h⟩
    · obtain ⟨e', h1, h2⟩ := maskOf_bit h
      exact ⟨e', by simp [h1], h2⟩

theorem masks_sound : ∀ (l : List Oper) (j : Nat) (m : T Nat), l = ops.toList.drop j → (∀ q i, ((m.get q).getD 0).testBit i = true → Anc ops i q) → ∀ q i, (((masks l j m).get q).getD 0).testBit i = true → Anc ops i q
  | [], _, m, _, hm => hm
  | o :: l, j, m, hl, hm => by
    have ho : ops[j]? = some o := by
      have : (ops.toList.drop j)[0]? = some o := by rw [← hl]; rfl
      rw [List.getElem?_drop] at this
      simpa using this
    have hl' : l = ops.toList.drop (j + 1) := by
      have : (o :: l).drop 1 = (ops.toList.drop j).drop 1 := by rw [hl]
      rw [List.drop_drop] at this
      simpa using this
    refine masks_sound l (j + 1) _ hl' fun q i hq => ?_
    rw [T.get_set] at hq
    by_cases e : j = q
    · subst e
      simp only [if_true, Option.getD_some] at hq
      obtain ⟨e', h1, h2⟩ := maskOf_bit hq
      rcases h2 with rfl | h2
      · exact .edge ⟨o, ho, h1⟩
      · exact .step ⟨o, ho, h1⟩ (hm _ _ h2)
    · rw [if_neg e] at hq
      exact hm q i hq

theorem before_anc {i j : Nat} (h : comesBefore (masks ops.toList 0 .nil) i j = true) : Anc ops i j :=
  masks_sound ops.toList 0 .nil (by simp) (fun q i hq => by simp at hq) j i h

/-- What the static check says. -/
structure Reg (P : Program) (ops : Array Oper) : Prop where
  dst : ∀ (j : Nat) (o : Oper), ops[j]? = some o → isFlo P o = true → ∃ d, o.dst = some d
  one : ∀ (i j : Nat) (o o' : Oper) (t : Tmp), ops[j]? = some o → ops[i]? = some o' → o'.dst = some t → o.dst = some t → i = j
  use : ∀ (i j : Nat) (o o' : Oper) (t : Tmp), ops[j]? = some o → ops[i]? = some o' → o'.dst = some t → .tmp t ∈ o.op.operands.toList → Anc ops i j ∨ (isFlo P o' = false ∧ Anc ops j i)
  guard : ∀ (j : Nat) (o : Oper) (g : Nat) (w : Bool), ops[j]? = some o → o.guard = some (g, w) → Anc ops g j
  lt : ∀ e j, EdgeOf ops e j → e < j

theorem mem_zipIdx {j : Nat} {o : Oper} (h : ops[j]? = some o) : (o, j) ∈ ops.toList.zipIdx := by
  rw [List.mem_zipIdx_iff_getElem?]
  simpa using h

theorem regOk_sound (h : regOk P ops.toList (masks ops.toList 0 .nil) = true) : Reg P ops := by
  unfold regOk at h
  rw [List.all_eq_true] at h
  have hj := fun (j : Nat) (o : Oper) (ho : ops[j]? = some o) => h (o, j) (mem_zipIdx ho)
  simp only [Bool.and_eq_true, Bool.or_eq_true, Bool.not_eq_true'] at hj
  refine ⟨fun j o ho hf => ?_, fun i j o o' t ho ho' hd' hd => ?_, fun i j o o' t ho ho' hd' ht => ?_, fun j o g w ho hg => ?_, fun e j he => ?_⟩
  · obtain ⟨⟨⟨h1, _⟩, _⟩, _⟩ := hj j o ho
    rcases h1 with h1 | h1
    · rw [hf] at h1; cases h1
    · exact Option.isSome_iff_exists.1 h1
  · obtain ⟨⟨⟨_, _⟩, h2⟩, _⟩ := hj j o ho
    have := List.all_eq_true.1 h2 (o', i) (mem_zipIdx ho')
    simp only [hd', Bool.and_eq_true, Bool.or_eq_true, beq_iff_eq, bne_iff_ne] at this
    rcases this.1 with e | e
    · exact e
    · exact absurd hd e
  · obtain ⟨⟨⟨_, _⟩, h2⟩, _⟩ := hj j o ho
    have := List.all_eq_true.1 h2 (o', i) (mem_zipIdx ho')
    simp only [hd', Bool.and_eq_true, Bool.or_eq_true, Bool.not_eq_true'] at this
    rcases this.2 with (e | e) | e
    · exfalso
      have hm : t ∈ tmpsOf o := by
        unfold tmpsOf
        rw [List.mem_filterMap]
        exact ⟨_, ht, rfl⟩
      rw [← Bool.not_eq_true] at e
      exact e (by simpa using hm)
    · exact .inl (before_anc e)
    · exact .inr ⟨e.1, before_anc e.2⟩
  · obtain ⟨_, h3⟩ := hj j o ho
    simp only [hg] at h3
    exact before_anc h3
  · obtain ⟨o, ho, hm⟩ := he
    obtain ⟨⟨⟨_, h2⟩, _⟩, _⟩ := hj j o ho
    have := List.all_eq_true.1 h2 e hm
    simpa [Nat.blt_eq] using this

/-! ### equal values, equal blocks -/
mutual
theorem eqv_eq : ∀ {a b : AV}, eqv a b = true → a = b
  | .int .., b, h => by cases b <;> simp [eqv] at h ⊢; exact h
  | .bool .., b, h => by cases b <;> simp [eqv] at h ⊢; exact h
  | .str .., b, h => by cases b <;> simp [eqv] at h ⊢; exact h
  | .ptr .., b, h => by cases b <;> simp [eqv] at h ⊢; exact h
  | .slice .., b, h => by cases b <;> simp [eqv] at h ⊢; exact ⟨h.1.1.1, h.1.1.2, h.1.2, h.2⟩
  | .map .., b, h => by cases b <;> simp [eqv] at h ⊢; exact h
  | .chan .., b, h => by cases b <;> simp [eqv] at h ⊢; exact h
  | .nilFunc, b, h => by cases b <;> simp [eqv] at h ⊢
  | .nilIface, b, h => by cases b <;> simp [eqv] at h ⊢
  | .func (.func f) x y, .func (.func g) z u, h => by
    simp only [eqv, Bool.and_eq_true, beq_iff_eq] at h
    rw [h.1.1, eqvs_eq h.1.2, eqvs_eq h.2]
  | .iface t a, .iface u b, h => by
    simp only [eqv, Bool.and_eq_true, beq_iff_eq] at h
    rw [h.1, eqv_eq h.2]
  | .agg l, .agg m, h => by
    simp only [eqv] at h
    rw [eqvs_eq h]
  | .tuple l, .tuple m, h => by
    simp only [eqv] at h
    rw [eqvs_eq h]
  | .raw .., b, h => by cases b <;> simp [eqv] at h ⊢; exact h
  | .func f x y, b, h => by
    cases f <;> cases b <;> first
      | (simp [eqv] at h; done)
      | (rename_i g _ _; cases g <;> first
          | (simp [eqv] at h; done)
          | (simp only [eqv, Bool.and_eq_true, beq_iff_eq] at h
             rw [h.1.1, eqvs_eq h.1.2, eqvs_eq h.2]))
  | .iface t a, b, h => by
    cases b <;> first
      | (simp [eqv] at h; done)
      | (simp only [eqv, Bool.and_eq_true, beq_iff_eq] at h
         rw [h.1, eqv_eq h.2])
  | .agg l, b, h => by
    cases b <;> first
      | (simp [eqv] at h; done)
      | (simp only [eqv] at h
         rw [eqvs_eq h])
  | .tuple l, b, h => by
    cases b <;> first
      | (simp [eqv] at h; done)
      | (simp only [eqv] at h
         rw [eqvs_eq h])
theorem eqvs_eq : ∀ {l m : List AV}, eqvs l m = true → l = m
  | [], [], _ => rfl
  | [], _ :: _, h => by simp [eqvs] at h
  | _ :: _, [], h => by simp [eqvs] at h
  | a :: l, b :: m, h => by
    simp only [eqvs, Bool.and_eq_true] at h
    rw [eqv_eq h.1, eqvs_eq h.2]
end

/-- As good as this block. -/
def SameB (blk blk0 : ABlk) : Prop := blk = blk0 ∨ sameBlk blk blk0 = true
theorem SameB.br {B : Nat} {env : Env} {w : World} {b c sh : Nat} {blk blk0 : ABlk} (h : SameB blk blk0) (hb : BR P B env w b c sh blk) : BR P B env w b c sh blk0 := by
  rcases h with rfl | h
  · exact hb
  · unfold sameBlk at h
    split at h
    · rename_i e n cs op ro e' n' cs' op' ro'
      simp only [Bool.and_eq_true, beq_iff_eq] at h
      obtain ⟨⟨⟨⟨rfl, rfl⟩, rfl⟩, rfl⟩, h5⟩ := h
      split at h5
      · rename_i l l' hl hl'
        have := eqvs_eq h5
        subst this
        obtain ⟨arr, el, fr, b1, b2, b3⟩ := hb
        refine ⟨arr, el, fr, b1, fun i hi => ?_, b3⟩
        obtain ⟨v, V, g1, g2⟩ := b2 i hi
        have e1 := (T.gets_some hl).2 i hi
        have e2 := (T.gets_some hl').2 i hi
        rw [Nat.zero_add] at e1 e2
        exact ⟨v, V, by rw [e2, ← e1]; exact g1, g2⟩
      · cases h5
    · rename_i k k'
      have h : k = k' := by simpa using h
      subst h
      exact hb
    · cases h

theorem sameMade_spec {h : AH} {blk : ABlk} {v v0 : AV} {mk : Nat → AV} {n : Nat} (hm : Mk mk) (hv : v = mk n) (hs : sameMade h blk v v0 = true) : ∃ b0 blk0, v0 = mk b0 ∧ h.t.get b0 = some blk0 ∧ SameB blk blk0 := by
  subst hv
  have key : ∀ b, (match h.t.get b with
    | some blk' => sameBlk blk blk'
    | none => false) = true → ∃ blk0, h.t.get b = some blk0 ∧ SameB blk blk0 := by
    intro b hb
    split at hb
    · rename_i blk' hg
      exact ⟨blk', hg, .inr hb⟩
    · cases hb
  cases hm with
  | ptr =>
    cases v0 <;> first
      | (simp [sameMade] at hs; done)
      | skip
    rename_i p
    cases p with
    | none => simp [sameMade] at hs
    | some p =>
      obtain ⟨b, o⟩ := p
      cases o with
      | succ o => simp [sameMade] at hs
      | zero =>
        simp only [sameMade] at hs
        obtain ⟨blk0, h1, h2⟩ := key b hs
        exact ⟨b, blk0, rfl, h1, h2⟩
  | slice l c op =>
    cases v0 <;> first
      | (simp [sameMade] at hs; done)
      | skip
    rename_i p l' c' op'
    cases p with
    | none => simp [sameMade] at hs
    | some p =>
      obtain ⟨b, o⟩ := p
      cases o with
      | succ o => simp [sameMade] at hs
      | zero =>
        simp only [sameMade, Bool.and_eq_true, beq_iff_eq] at hs
        obtain ⟨⟨⟨rfl, rfl⟩, rfl⟩, hs⟩ := hs
        obtain ⟨blk0, h1, h2⟩ := key b hs
        exact ⟨b, blk0, rfl, h1, h2⟩
  | map =>
    cases v0 <;> first
      | (simp [sameMade] at hs; done)
      | skip
    rename_i p
    cases p with
    | none => simp [sameMade] at hs
    | some b =>
      simp only [sameMade] at hs
      obtain ⟨blk0, h1, h2⟩ := key b hs
      exact ⟨b, blk0, rfl, h1, h2⟩
end
end
end Go.Cx

/-
  A REGION WHOSE ORDER IS OPEN: ANY ORDER IS AS GOOD AS THE EAGER ONE.
-/
namespace Go.Cx
noncomputable section
open Go Go.Conc

abbrev Pend := List (Nat × Option Nat)
def holesOf (pend : Pend) : List Nat := pend.filterMap (·.2)
/-- The slots of what is not carried out yet. -/
def Dp (ops : Array Oper) (pend : Pend) (d : Nat) : Prop := ∃ p ∈ pend, ∃ o, ops[p.1]? = some o ∧ o.dst = some d
/-- What is not carried out yet, if it came up now, would leave what the interpreter has. -/
def Del (P : Program) (ops : Array Oper) (st : AS) (p : Nat × Option Nat) : Prop := ∃ o d, ops[p.1]? = some o ∧ isFlo P o = true ∧ o.dst = some d ∧ d < st.n ∧
  ((aWanted ops o st.t = false ∧ p.2 = none ∧ st.t.get d = some (.tuple [])) ∨
   (aWanted ops o st.t = true ∧ isMake o = false ∧ p.2 = none ∧ ∃ v, aop P (aRho P.globals.size st.t) o st.h = some (.val v, st.h) ∧ st.t.get d = some v) ∨
   (aWanted ops o st.t = true ∧ isMake o = true ∧ ∃ mk blk b0 blk0, Mk mk ∧ Plain blk ∧ aop P (aRho P.globals.size st.t) o st.h = some (.val (mk st.h.n), st.h.push blk) ∧ p.2 = some b0 ∧ st.t.get d = some (mk b0) ∧ st.h.t.get b0 = some blk0 ∧ SameB blk blk0))
def PW (ops : Array Oper) (p q : Nat × Option Nat) : Prop := ¬ EdgeOf ops q.1 p.1 ∧ p.1 ≠ q.1 ∧ ∀ b, p.2 = some b → q.2 ≠ some b
structure Sim (P : Program) (ops : Array Oper) (K0 : List Nat) (st : AS) (done : List Bool) (pend : Pend) (listed : Array Bool) : Prop where
  dlen : done.length = ops.size
  llen : listed.size = ops.size
  lst : ∀ i, i < ops.size → (listed.getD i false = true ↔ done.getD i false = true ∧ ∀ p ∈ pend, p.1 ≠ i)
  pdone : ∀ p ∈ pend, p.1 < ops.size ∧ done.getD p.1 false = true
  ddown : Down ops (fun j => done.getD j false = true)
  ldown : Down ops (fun j => listed.getD j false = true)
  pw : pend.Pairwise (PW ops)
  k0 : ∀ p ∈ pend, ∀ b, p.2 = some b → b ∉ K0
  del : ∀ p ∈ pend, Del P ops st p

section
variable {P : Program} {Post : Value → World → Prop} {B : Nat} {w₀ : World} {K0 : List Nat} {ops : Array Oper} {st st' : AS} {done : List Bool} {pend : Pend} {listed : Array Bool} {env : Env} {a : Act} {S : Option (Nat × List Value)} {w : World}

theorem op_lt {j : Nat} {o : Oper} (h : ops[j]? = some o) : j < ops.size := (Array.getElem?_eq_some_iff.1 h).1

theorem HS.weaken {K K' : List Nat} {h : AH} {s : Option (Nat × List AV)} (hs : HS P B w₀ K env h s S w) (hk : ∀ b ∈ K', b ∈ K) : HS P B w₀ K' env h s S w :=
  ⟨hs.tape, hs.os, hs.output, hs.size, hs.base, hs.bound, hs.gb, hs.inj, hs.unal, hs.next, hs.rel, hs.dead, hs.glob, hs.snd, hs.actv, fun b hb => hs.hol b (hk b hb)⟩

/-- What is ready sees no slot that is not filled. -/
theorem Sim.sees (R : Reg P ops) (hs : Sim P ops K0 st done pend listed) {j : Nat} {o : Oper} (ho : ops[j]? = some o) (hr : ∀ e, EdgeOf ops e j → listed.getD e false = true) : Sees (Dp ops pend) ops o := by
  have notp : ∀ p ∈ pend, Anc ops p.1 j → False := fun p hp ha => by
    have h1 := anc_down hs.ldown ha hr
    exact ((hs.lst p.1 (hs.pdone p hp).1).1 h1).2 p hp rfl
  refine ⟨fun t ht hD => ?_, fun g w d hg hd hD => ?_⟩
  · obtain ⟨p, hp, o', ho', hd'⟩ := hD
    rcases R.use p.1 j o o' t ho ho' hd' ht with h1 | ⟨h1, _⟩
    · exact notp p hp h1
    · obtain ⟨op, _, hop, hf, _⟩ := hs.del p hp
      rw [ho'] at hop; cases hop
      rw [hf] at h1; cases h1
  · obtain ⟨p, hp, o', ho', hd'⟩ := hD
    cases hgo : ops[g]? with
    | none => rw [hgo] at hd; cases hd
    | some og =>
      rw [hgo] at hd
      have := R.one p.1 g og o' d hgo ho' hd' hd
      rw [← this] at hg
      exact notp p hp (R.guard j o p.1 w ho hg)

/-- The slot is filled by the machine too. -/
theorem TR.fillSlot {D D' : Nat → Prop} {t : T AV} {n d : Nat} {V : Value} (h : TR env D t n a) (hd : d < n) (hv : VR env ((t.get d).getD (.tuple [])) V) (hD : ∀ x, D x → D' x ∨ x = d) : TR env D' t n (a.put (some d) V) := by
  refine ⟨h.defers, by simp [Act.put, h.size], fun d' hd' hD' => ?_, h.out⟩
  simp only [Act.put]
  by_cases e : d = d'
  · subst e
    have : (a.tmps.setIfInBounds d V).getD d undef = V := by
      rw [Array.getD_eq_getD_getElem?, Array.getElem?_setIfInBounds_self_of_lt (by rw [h.size]; exact hd)]; rfl
    rw [this]
    exact hv
  · have := h.val d' hd' fun hx => by
      rcases hD d' hx with h1 | h1
      · exact hD' h1
      · exact e h1.symm
    rw [Array.getD_eq_getD_getElem?, Array.getElem?_setIfInBounds_ne e, ← Array.getD_eq_getD_getElem?]
    exact this

theorem dp_mid {p1 p2 : Pend} {p : Nat × Option Nat} {o : Oper} {d : Nat} (ho : ops[p.1]? = some o) (hd : o.dst = some d) : ∀ x, Dp ops (p1 ++ p :: p2) x → Dp ops (p1 ++ p2) x ∨ x = d := by
  rintro x ⟨q, hq, oq, hoq, hdq⟩
  rcases List.mem_append.1 hq with h1 | h1
  · exact .inl ⟨q, List.mem_append_left _ h1, oq, hoq, hdq⟩
  · rcases List.mem_cons.1 h1 with rfl | h1
    · rw [ho] at hoq; cases hoq
      rw [hd] at hdq; cases hdq
      exact .inr rfl
    · exact .inl ⟨q, List.mem_append_right _ h1, oq, hoq, hdq⟩

theorem holes_mid {p1 p2 : Pend} {p : Nat × Option Nat} : ∀ b ∈ K0 ++ holesOf (p1 ++ p2), b ∈ K0 ++ holesOf (p1 ++ p :: p2) := by
  intro b hb
  simp only [holesOf, List.filterMap_append, List.mem_append] at hb ⊢
  rcases hb with h | h | h
  · exact .inl h
  · exact .inr (.inl h)
  · refine .inr (.inr ?_)
    rw [List.filterMap_cons]
    split
    · exact h
    · exact List.mem_cons_of_mem _ h

/-- One of those that float is carried out. -/
theorem deliver (R : Reg P ops) {p1 p2 : Pend} {p : Nat × Option Nat} (hs : Sim P ops K0 st done (p1 ++ p :: p2) listed) (hr : ∀ e, EdgeOf ops e p.1 → listed.getD e false = true)
    {b : Frame} {k : List Item} {cs : List Frame} {rest : List Nat} (hk : b.kind ≠ .early) (hT : TR env (Dp ops (p1 ++ p :: p2)) st.t st.n a) (hH : HS P B w₀ (K0 ++ holesOf (p1 ++ p :: p2)) env st.h st.s S w)
    (next : ∀ env' a' w', env.le env' → TR env' (Dp ops (p1 ++ p2)) st.t st.n a' → HS P B w₀ (K0 ++ holesOf (p1 ++ p2)) env' st.h st.s S w' → Runs P Post S (G (b.at a' (.inRegion ops rest :: k)) cs) w') :
    Runs P Post S (G (b.at a (.inRegion ops (p.1 :: rest) :: k)) cs) w := by
  obtain ⟨o, d, ho, hf, hd, hdn, hcase⟩ := hs.del p (by simp)
  have hsees := hs.sees R ho hr
  have hmid := dp_mid (p1 := p1) (p2 := p2) ho hd
  rcases hcase with ⟨hw, hp, hg⟩ | ⟨hw, hm, hp, v, ha, hg⟩ | ⟨hw, hm, mk, blk, b0, blk0, hmk, hpl, ha, hp, hg, hb0, hsb⟩
  · have hw' : Region.wanted o (yielded ops a.tmps) = false := by rw [hT.wanted hsees]; exact hw
    refine .ctl rfl (fun w₁ => stepG_unwanted ho hw') ?_
    rw [hd]
    exact next env _ w (Env.le_refl _) (hT.fillSlot hdn (by rw [hg]; exact vr_undef env) hmid) (hH.weaken holes_mid)
  · have hw' : Region.wanted o (yielded ops a.tmps) = true := by rw [hT.wanted hsees]; exact hw
    refine runs_op ho hw' hk fun w₁ h₁ => ?_
    have hH₁ := hH.rely h₁
    have hB : B ≤ w₁.heap.size := by have := hH₁.size; have := hH₁.bound; omega
    rw [← restr_aop hsees] at ha
    rcases float_sound hB (isFlo_float hf) ha (hT.evr hH₁) hH₁ with ⟨-, V, hdo, hv⟩ | ⟨mk, blk, h1, _⟩
    · refine ⟨V, w₁, .inl hdo.1, own_same' rfl (hdo.listed b.fn), ?_⟩
      rw [hd]
      exact next env _ w₁ (Env.le_refl _) (hT.fillSlot hdn (by rw [hg]; exact hv) hmid) (hH₁.weaken holes_mid)
    · exact (push_ne h1.symm).elim
  · have hw' : Region.wanted o (yielded ops a.tmps) = true := by rw [hT.wanted hsees]; exact hw
    refine runs_op ho hw' hk fun w₁ h₁ => ?_
    have hH₁ := hH.rely h₁
    have hB : B ≤ w₁.heap.size := by have := hH₁.size; have := hH₁.bound; omega
    rw [← restr_aop hsees] at ha
    rcases float_sound hB (isFlo_float hf) ha (hT.evr hH₁) hH₁ with ⟨h1, _⟩ | ⟨mk', blk', h1, h2, hmk', hpl', hnew⟩
    · exact (push_ne h1).elim
    · have e1 := push_inj h1
      have e2 := mk_inj hmk hmk' h2
      subst e1; subst e2
      obtain ⟨V, w', obj, ex, hdo, hn1, hb⟩ := hnew
      have hole0 : env.blk b0 = .hole := (hH₁.hol b0 (by
        simp only [holesOf, List.filterMap_append, List.mem_append]
        right; right
        rw [List.filterMap_cons, hp]
        simp)).1
      have hbK : b0 ∉ K0 ++ holesOf (p1 ++ p2) := by
        intro hmem
        rcases List.mem_append.1 hmem with h3 | h3
        · exact hs.k0 p (by simp) b0 hp h3
        · simp only [holesOf, List.filterMap_append, List.mem_append, List.mem_filterMap] at h3
          have hpw := hs.pw
          rw [List.pairwise_append] at hpw
          obtain ⟨_, hpw2, hpw3⟩ := hpw
          rcases h3 with ⟨q, hq, hqb⟩ | ⟨q, hq, hqb⟩
          · exact (hpw3 q hq p (by simp)).2.2 b0 hqb hp
          · exact ((List.pairwise_cons.1 hpw2).1 q hq).2.2 b0 hp hqb
      obtain ⟨g1, g2⟩ := hb b0 hole0
      have hle := Env.le_fill (c := w₁.heap.size) (sh := 0) (ex := ex) hole0
      refine ⟨V, w', .inl hdo.1, own_new' hn1 (hdo.listed b.fn), ?_⟩
      rw [hd]
      refine next _ _ w' hle ((hT.mono hle).fillSlot hdn (by rw [hg]; exact g2) hmid) ?_
      exact (hH₁.weaken holes_mid).fill hb0 hole0 hbK hn1 (hsb.br g1)

/-- Without it. -/
theorem Sim.less (hs : Sim P ops K0 st done pend listed) {p1 p2 : Pend} {p : Nat × Option Nat} (hp : pend = p1 ++ p :: p2) (hr : ∀ e, EdgeOf ops e p.1 → listed.getD e false = true) : Sim P ops K0 st done (p1 ++ p2) (listed.setIfInBounds p.1 true) := by
  subst hp
  have hsub : (p1 ++ p2).Sublist (p1 ++ p :: p2) := List.Sublist.append (List.Sublist.refl _) (List.sublist_cons_self _ _)
  have hin : ∀ q, q ∈ p1 ++ p2 → q ∈ p1 ++ p :: p2 := fun q hq => hsub.subset hq
  have hlt := (hs.pdone p (by simp)).1
  have hget : ∀ i, (listed.setIfInBounds p.1 true).getD i false = if p.1 = i then true else listed.getD i false := by
    intro i
    rw [Array.getD_eq_getD_getElem?, Array.getElem?_setIfInBounds]
    split
    · rename_i e; subst e
      rw [if_pos (by rw [hs.llen]; exact hlt)]; rfl
    · rw [Array.getD_eq_getD_getElem?]
  have hne : ∀ q ∈ p1 ++ p2, q.1 ≠ p.1 := by
    intro q hq
    have hpw := hs.pw
    rw [List.pairwise_append] at hpw
    obtain ⟨_, hpw2, hpw3⟩ := hpw
    rcases List.mem_append.1 hq with h | h
    · exact (hpw3 q h p (by simp)).2.1
    · exact fun e => ((List.pairwise_cons.1 hpw2).1 q h).2.1 e.symm
  refine ⟨hs.dlen, by simp [hs.llen], fun i hi => ?_, fun q hq => hs.pdone q (hin q hq), hs.ddown, fun e j he hj => ?_, hs.pw.sublist hsub, fun q hq => hs.k0 q (hin q hq), fun q hq => hs.del q (hin q hq)⟩
  · rw [hget]
    by_cases e : p.1 = i
    · subst e
      simp only [if_true, true_iff]
      exact ⟨(hs.pdone p (by simp)).2, hne⟩
    · rw [if_neg e, hs.lst i hi]
      constructor
      · rintro ⟨h1, h2⟩
        exact ⟨h1, fun q hq => h2 q (hin q hq)⟩
      · rintro ⟨h1, h2⟩
        refine ⟨h1, fun q hq => ?_⟩
        rcases List.mem_append.1 hq with h | h
        · exact h2 q (List.mem_append_left _ h)
        · rcases List.mem_cons.1 h with rfl | h
          · exact e
          · exact h2 q (List.mem_append_right _ h)
  · simp only [hget] at hj ⊢
    split
    · rfl
    · split at hj
      · rename_i e2; subst e2; exact hr e he
      · exact hs.ldown e j he hj

theorem aWanted_same {o : Oper} {t t' : T AV} (h : ∀ g w d, o.guard = some (g, w) → (ops[g]?).bind (·.dst) = some d → t'.get d = t.get d) : aWanted ops o t' = aWanted ops o t := by
  unfold aWanted
  cases hg : o.guard with
  | none => rfl
  | some x =>
    obtain ⟨g, w⟩ := x
    simp only
    unfold aYield
    cases hd : (ops[g]?).bind (·.dst) with
    | none => rfl
    | some d => simp only [h g w d hg hd]

theorem rho_same {o : Oper} {t t' : T AV} {h : AH} (hx : ∀ d, .tmp d ∈ o.op.operands.toList → t'.get d = t.get d) : aop P (aRho P.globals.size t') o h = aop P (aRho P.globals.size t) o h := by
  refine aop_congr fun x hm => ?_
  cases x with
  | tmp d => simp only [aRho, hx d hm]
  | _ => rfl

/-- It stays so while the heap only grows. -/
theorem Del.keep {p : Nat × Option Nat} (h : Del P ops st p) (hn : st'.n = st.n) (he : Ext st.h st'.h) (ht : ∀ o, ops[p.1]? = some o → (∀ d, .tmp d ∈ o.op.operands.toList → st'.t.get d = st.t.get d) ∧ (∀ g w d, o.guard = some (g, w) → (ops[g]?).bind (·.dst) = some d → st'.t.get d = st.t.get d) ∧ ∀ d, o.dst = some d → st'.t.get d = st.t.get d) : Del P ops st' p := by
  obtain ⟨o, d, ho, hf, hd, hdn, hcase⟩ := h
  obtain ⟨t1, t2, t3⟩ := ht o ho
  refine ⟨o, d, ho, hf, hd, by rw [hn]; exact hdn, ?_⟩
  rw [aWanted_same t2, t3 d hd]
  rcases hcase with h1 | ⟨hw, hm, hp, v, ha, hg⟩ | ⟨hw, hm, mk, blk, b0, blk0, hmk, hpl, ha, hp, hg, hb0, hsb⟩
  · exact .inl h1
  · refine .inr (.inl ⟨hw, hm, hp, v, ?_, hg⟩)
    rw [rho_same t1]
    exact (flo_pure hf hm ha).2 st'.h fun _ => he
  · refine .inr (.inr ⟨hw, hm, mk, blk, b0, blk0, hmk, hpl, ?_, hp, hg, he _ _ hb0, hsb⟩)
    rw [rho_same t1]
    obtain ⟨mk', blk', hmk', _, e1, e2, e3⟩ := flo_make hf hm ha
    have := push_inj e1
    subst this
    have := mk_inj hmk hmk' e2
    subst this
    exact e3 st'.h
end
end
end Go.Cx

/-
  A REGION WHOSE ORDER IS OPEN: THE INTERPRETER'S STAGES AGAINST THE MACHINE'S ORDER.
-/
namespace Go.Cx
noncomputable section
open Go Go.Conc

section
variable {P : Program} {Post : Value → World → Prop} {B : Nat} {w₀ : World} {K0 : List Nat} {ops : Array Oper} {st st' : AS} {done : List Bool} {pend : Pend} {listed : Array Bool} {env : Env} {a : Act} {S : Option (Nat × List Value)} {w : World} {X : Orc} {call : CallF}

theorem getD_set {l : List Bool} {j : Nat} (hj : j < l.length) (i : Nat) : (l.set j true).getD i false = if j = i then true else l.getD i false := by
  rw [List.getD_eq_getElem?_getD, List.getElem?_set]
  split
  · rename_i e; subst e; simp
  · rw [List.getD_eq_getElem?_getD]
theorem agetD_set {l : Array Bool} {j : Nat} (hj : j < l.size) (i : Nat) : (l.setIfInBounds j true).getD i false = if j = i then true else l.getD i false := by
  rw [Array.getD_eq_getD_getElem?, Array.getElem?_setIfInBounds]
  split
  · rename_i e; subst e; simp
  · rw [Array.getD_eq_getD_getElem?]
theorem getD_true {l : List Bool} {j : Nat} (hj : j < l.length) : l.getD j true = l.getD j false := by
  simp [List.getD_eq_getElem?_getD, hj]
theorem agetD_true {l : Array Bool} {j : Nat} (hj : j < l.size) : l.getD j true = l.getD j false := by
  simp [Array.getD_eq_getD_getElem?, hj]

theorem put_spec {dst : Option Tmp} {v : AV} (h : st.put dst v = some st') : st'.n = st.n ∧ st'.h = st.h ∧ st'.s = st.s ∧ (∀ d, dst ≠ some d → st'.t.get d = st.t.get d) ∧ ∀ d, dst = some d → d < st.n ∧ st'.t.get d = some v := by
  unfold AS.put at h
  cases dst with
  | none => simp at h; subst h; exact ⟨rfl, rfl, rfl, fun _ _ => rfl, fun d hd => by cases hd⟩
  | some d =>
    simp only at h
    split at h
    · rename_i hd
      simp only [Option.some.injEq] at h
      subst h
      refine ⟨rfl, rfl, rfl, fun d' hd' => ?_, fun d' hd' => ?_⟩
      · simp only [T.get_set]
        rw [if_neg (fun e => hd' (by rw [e]))]
      · cases hd'
        exact ⟨hd, by simp [T.get_set]⟩
    · cases h

theorem flo_val {ρ : Operand → Option AV} {o : Oper} {h h' : AH} {r : ARes} (hf : isFlo P o = true) (ha : aop P ρ o h = some (r, h')) : ∃ v, r = .val v := by
  have hk := aop_kind ha
  have hff := isFlo_float hf
  unfold Kind at hk
  unfold isFloat at hff
  cases hop : o.op <;> simp only [hop] at hk hff <;> first
    | (cases hff; done)
    | exact hk
    | skip
  rename_i c
  rcases hk with hk | ⟨f, args, rfl⟩
  · exact hk
  · exfalso
    unfold aop at ha
    simp only [hop] at ha
    unfold aCall at ha
    split at ha
    · cases ha
    · obtain ⟨callee, cargs, cts⟩ := c
      cases callee with
      | builtin b =>
        obtain ⟨v, hv⟩ := builtin_val ha
        cases hv
      | _ => simp at hff

/-- One that floats is carried out by the interpreter. -/
theorem sim_float (R : Reg P ops) (hs : Sim P ops K0 st done pend listed) {j : Nat} {o : Oper} (ho : ops[j]? = some o) (hf : isFlo P o = true) (hj : done.getD j false = false) (hr : ∀ e, EdgeOf ops e j → done.getD e false = true)
    (h1 : aOne P X call ops st j = some st') (hT : TR env (Dp ops pend) st.t st.n a) (hH : HS P B w₀ (K0 ++ holesOf pend) env st.h st.s S w) :
    ∃ hole, Sim P ops K0 st' (done.set j true) (pend ++ [(j, hole)]) listed ∧ TR env (Dp ops (pend ++ [(j, hole)])) st'.t st'.n a ∧ HS P B w₀ (K0 ++ holesOf (pend ++ [(j, hole)])) env st'.h st'.s S w := by
  obtain ⟨d, hd⟩ := R.dst j o ho hf
  have hlt := op_lt ho
  have hdl : j < done.length := by rw [hs.dlen]; exact hlt
  have notAnc : ∀ p ∈ pend, Anc ops j p.1 → False := fun p hp ha => by
    have := anc_down hs.ddown ha fun e he => hs.ddown e _ he (hs.pdone p hp).2
    simp only [hj] at this
    cases this
  have hne : ∀ p ∈ pend, p.1 ≠ j := fun p hp e => by
    have := (hs.pdone p hp).2
    rw [e, hj] at this; cases this
  -- what is gained of the step
  have key : ∃ hole v, st'.n = st.n ∧ st'.s = st.s ∧ (∀ x, x ≠ d → st'.t.get x = st.t.get x) ∧ d < st.n ∧ st'.t.get d = some v ∧ Ext st.h st'.h ∧ Del P ops st' (j, hole) ∧ (∀ b, hole = some b → b = st.h.n) ∧ HS P B w₀ (K0 ++ holesOf (pend ++ [(j, hole)])) env st'.h st'.s S w := by
    have hholes : holesOf (pend ++ [(j, none)]) = holesOf pend := by simp [holesOf]
    have own : ∀ t', .tmp t' ∈ o.op.operands.toList → t' ≠ d := fun t' ht' e => by
      subst e
      have hself : Anc ops j j := (R.use j j o o t' ho ho hd ht').resolve_right fun h => by rw [hf] at h; cases h.1
      have := anc_down hs.ddown hself hr
      simp only [hj] at this
      cases this
    have ownG : ∀ g w0 d', o.guard = some (g, w0) → (ops[g]?).bind (·.dst) = some d' → d' ≠ d := fun g w0 d' hg hd' e => by
      subst e
      cases hgo : ops[g]? with
      | none => rw [hgo] at hd'; cases hd'
      | some og =>
        rw [hgo] at hd'
        have e2 := R.one j g og o d' hgo ho hd hd'
        have hself := R.guard j o g w0 ho hg
        rw [← e2] at hself
        have := anc_down hs.ddown hself hr
        simp only [hj] at this
        cases this
    unfold aOne at h1
    simp only [ho] at h1
    by_cases hw : aWanted ops o st.t = true
    · rw [if_pos hw] at h1
      cases ha : aop P (aRho P.globals.size st.t) o st.h with
      | none => simp [ha, aExt, hf] at h1
      | some r =>
        obtain ⟨r, h'⟩ := r
        obtain ⟨v, rfl⟩ := flo_val hf ha
        simp only [ha] at h1
        obtain ⟨p1, p2, p3, p4, p5⟩ := put_spec h1
        simp only at p1 p2 p3 p4 p5
        obtain ⟨hdn, hg⟩ := p5 d hd
        have same : ∀ x, x ≠ d → st'.t.get x = st.t.get x := fun x hx => p4 x fun e => hx (by rw [hd] at e; cases e; rfl)
        have hw' : aWanted ops o st'.t = true := by rw [aWanted_same fun g w0 d' hg hd' => same d' (ownG g w0 d' hg hd')]; exact hw
        cases hm : isMake o with
        | false =>
          obtain ⟨e1, e2⟩ := flo_pure hf hm ha
          subst e1
          refine ⟨none, v, p1, p3, same, hdn, hg, by rw [p2]; exact Ext.refl _, ?_, fun b hb => (by cases hb), ?_⟩
          · refine ⟨o, d, ho, hf, hd, by rw [p1]; exact hdn, .inr (.inl ⟨hw', hm, rfl, v, ?_, hg⟩)⟩
            rw [rho_same fun t' ht' => same t' (own t' ht'), p2]
            exact ha
          · rw [hholes, p2, p3]; exact hH
        | true =>
          obtain ⟨mk, blk, hmk, hpl, rfl, rfl, e3⟩ := flo_make hf hm ha
          have hnone : st.h.t.get st.h.n = none := hH.next _ (Nat.le_refl _)
          refine ⟨some st.h.n, mk st.h.n, p1, p3, same, hdn, hg, by rw [p2]; exact ext_push hnone, ?_, fun b hb => (by cases hb; rfl), ?_⟩
          · refine ⟨o, d, ho, hf, hd, by rw [p1]; exact hdn, .inr (.inr ⟨hw', hm, mk, blk, st.h.n, blk, hmk, hpl, ?_, rfl, hg, by rw [p2]; exact push_get _ _, .inl rfl⟩)⟩
            rw [rho_same fun t' ht' => same t' (own t' ht')]
            exact e3 st'.h
          · have hc : blk ≠ .chan 1 := fun e => by subst e; exact hpl
            have hpush := hH.apush (blk := blk) hc
            rw [p2, p3]
            refine ⟨hpush.tape, hpush.os, hpush.output, hpush.size, hpush.base, hpush.bound, hpush.gb, hpush.inj, hpush.unal, hpush.next, hpush.rel, hpush.dead, hpush.glob, hpush.snd, hpush.actv, fun b hb => ?_⟩
            have hb' : b ∈ K0 ++ holesOf pend ∨ b = st.h.n := by
              simp only [holesOf, List.filterMap_append, List.mem_append] at hb ⊢
              rcases hb with h | h | h
              · exact .inl (.inl h)
              · exact .inl (.inr h)
              · right; simpa using h
            rcases hb' with h | rfl
            · exact hpush.hol b h
            · exact ⟨hs_hole hH, Nat.lt_succ_self _⟩
    · have hw0 : aWanted ops o st.t = false := by simpa using hw
      rw [if_neg hw] at h1
      obtain ⟨p1, p2, p3, p4, p5⟩ := put_spec h1
      obtain ⟨hdn, hg⟩ := p5 d hd
      have same : ∀ x, x ≠ d → st'.t.get x = st.t.get x := fun x hx => p4 x fun e => hx (by rw [hd] at e; cases e; rfl)
      have hw' : aWanted ops o st'.t = false := by rw [aWanted_same fun g w0 d' hg hd' => same d' (ownG g w0 d' hg hd')]; exact hw0
      refine ⟨none, .tuple [], p1, p3, same, hdn, hg, by rw [p2]; exact Ext.refl _, ?_, fun b hb => (by cases hb), by rw [hholes, p2, p3]; exact hH⟩
      exact ⟨o, d, ho, hf, hd, by rw [p1]; exact hdn, .inl ⟨hw', rfl, hg⟩⟩
  obtain ⟨hole, v, k1, k2, same, hdn, hg, hext, hdel, hhole, hHS⟩ := key
  refine ⟨hole, ?_, ?_, hHS⟩
  · refine ⟨by simp [hs.dlen], hs.llen, fun i hi => ?_, fun p hp => ?_, fun e q he hq => ?_, hs.ldown, ?_, fun p hp b hb => ?_, fun p hp => ?_⟩
    · rw [hs.lst i hi, getD_set hdl]
      constructor
      · rintro ⟨g1, g2⟩
        have : j ≠ i := fun e => by subst e; rw [hj] at g1; cases g1
        refine ⟨by rw [if_neg this]; exact g1, fun p hp => ?_⟩
        rcases List.mem_append.1 hp with hp | hp
        · exact g2 p hp
        · simp only [List.mem_singleton] at hp; subst hp; exact this
      · rintro ⟨g1, g2⟩
        have : j ≠ i := g2 (j, hole) (by simp)
        rw [if_neg this] at g1
        exact ⟨g1, fun p hp => g2 p (by simp [hp])⟩
    · rw [getD_set hdl]
      rcases List.mem_append.1 hp with hp | hp
      · refine ⟨(hs.pdone p hp).1, ?_⟩
        split
        · rfl
        · exact (hs.pdone p hp).2
      · simp only [List.mem_singleton] at hp; subst hp
        exact ⟨hlt, by simp⟩
    · simp only [getD_set hdl] at hq ⊢
      split
      · rfl
      · split at hq
        · rename_i e2; subst e2; exact hr e he
        · exact hs.ddown e q he hq
    · rw [List.pairwise_append]
      refine ⟨hs.pw, List.pairwise_singleton _ _, fun p hp q hq => ?_⟩
      simp only [List.mem_singleton] at hq; subst hq
      refine ⟨fun he => notAnc p hp (.edge he), hne p hp, fun b hb hb' => ?_⟩
      have e1 := hhole b hb'
      subst e1
      have hmem : st.h.n ∈ K0 ++ holesOf pend := List.mem_append_right _ (List.mem_filterMap.2 ⟨p, hp, hb⟩)
      exact Nat.lt_irrefl _ (hH.hol _ hmem).2
    · rcases List.mem_append.1 hp with hp | hp
      · exact hs.k0 p hp b hb
      · simp only [List.mem_singleton] at hp; subst hp
        have e1 := hhole b hb
        subst e1
        exact fun hm => Nat.lt_irrefl _ (hH.hol _ (List.mem_append_left _ hm)).2
    · rcases List.mem_append.1 hp with hp | hp
      · refine (hs.del p hp).keep k1 hext fun op hop => ⟨fun t' ht' => same t' fun e => ?_, fun g w0 d' hg' hd' => same d' fun e => ?_, fun d' hd' => same d' fun e => ?_⟩
        · subst e
          exact notAnc p hp ((R.use j p.1 op o t' hop ho hd ht').resolve_right fun h => by rw [hf] at h; cases h.1)
        · subst e
          cases hgo : ops[g]? with
          | none => rw [hgo] at hd'; cases hd'
          | some og =>
            rw [hgo] at hd'
            have e2 := R.one j g og o d' hgo ho hd hd'
            have hself := R.guard p.1 op g w0 hop hg'
            rw [← e2] at hself
            exact notAnc p hp hself
        · subst e
          exact hne p hp (R.one p.1 j o op d' ho hop hd' hd)
      · simp only [List.mem_singleton] at hp; subst hp
        exact hdel
  · refine ⟨hT.defers, by rw [k1]; exact hT.size, fun x hx hD => ?_, fun x hx => ?_⟩
    · have hxd : x ≠ d := fun e => by
        subst e
        exact hD ⟨(j, hole), by simp, o, ho, hd⟩
      rw [same x hxd]
      rw [k1] at hx
      exact hT.val x hx fun ⟨p, hp, op, hop, hdp⟩ => hD ⟨p, by simp [hp], op, hop, hdp⟩
    · rw [k1] at hx
      rw [same x (fun e => by subst e; exact Nat.lt_irrefl _ (Nat.lt_of_lt_of_le hdn hx))]
      exact hT.out x hx

theorem readyIn_iff {o : Oper} {j : Nat} (ho : ops[j]? = some o) : readyIn done o = true ↔ ∀ e, EdgeOf ops e j → done.getD e false = true := by
  unfold readyIn
  rw [List.all_eq_true]
  constructor
  · rintro h e ⟨o', ho', he⟩
    rw [ho] at ho'; cases ho'
    exact h e he
  · exact fun h e he => h e ⟨o, ho, he⟩

/-- All that float, in one stage. -/
theorem sim_floats (R : Reg P ops) : ∀ (l : List Oper) (i : Nat) (done : List Bool) (pend : Pend) (st : AS), l = ops.toList.drop i → Sim P ops K0 st done pend listed → TR env (Dp ops pend) st.t st.n a → HS P B w₀ (K0 ++ holesOf pend) env st.h st.s S w →
    ∀ {st'}, aText P X call ops (floats P l i done).1 st = some st' → ∃ pend', Sim P ops K0 st' (floats P l i done).2 (pend ++ pend') listed ∧ TR env (Dp ops (pend ++ pend')) st'.t st'.n a ∧ HS P B w₀ (K0 ++ holesOf (pend ++ pend')) env st'.h st'.s S w ∧ (∀ p ∈ pend', p.1 ∈ (floats P l i done).1) ∧
      (∀ j, j < i → (floats P l i done).2.getD j false = done.getD j false) ∧ ∀ j o, i ≤ j → ops[j]? = some o → isFlo P o = true → (floats P l i done).2.getD j false = false → readyIn (floats P l i done).2 o = false
  | [], i, done, pend, st, hl, hs, hT, hH, st', h => by
    simp only [floats, aText, Option.some.injEq] at h
    subst h
    refine ⟨[], by simpa [floats] using hs, by simpa using hT, by simpa using hH, fun p hp => by simp at hp, fun j _ => rfl, fun j o hij ho => ?_⟩
    exfalso
    have : ops.size ≤ i := by
      have := congrArg List.length hl
      simp at this; omega
    have := op_lt ho
    omega
  | o :: l, i, done, pend, st, hl, hs, hT, hH, st', h => by
    have ho : ops[i]? = some o := by
      have : (ops.toList.drop i)[0]? = some o := by rw [← hl]; rfl
      rw [List.getElem?_drop] at this
      simpa using this
    have hl' : l = ops.toList.drop (i + 1) := by
      have : (o :: l).drop 1 = (ops.toList.drop i).drop 1 := by rw [hl]
      rw [List.drop_drop] at this
      simpa using this
    have hlt := op_lt ho
    have hdl : i < done.length := by rw [hs.dlen]; exact hlt
    have edgelt : ∀ {dn : List Bool} {j : Nat} {oj : Oper}, ops[j]? = some oj → j ≤ i → (∀ x, x < i → dn.getD x false = done.getD x false) → readyIn dn oj = readyIn done oj := by
      intro dn j oj hoj hji hx
      unfold readyIn
      have : ∀ e ∈ edges oj, dn.getD e false = done.getD e false := fun e he => hx e (Nat.lt_of_lt_of_le (R.lt e j ⟨oj, hoj, he⟩) hji)
      rw [Bool.eq_iff_iff, List.all_eq_true, List.all_eq_true]
      exact ⟨fun h e he => by rw [← this e he]; exact h e he, fun h e he => by rw [this e he]; exact h e he⟩
    unfold floats at h ⊢
    by_cases hc : (!done.getD i true && isFlo P o && readyIn done o) = true
    · rw [if_pos hc] at h ⊢
      simp only [Bool.and_eq_true, Bool.not_eq_true', getD_true hdl] at hc
      obtain ⟨⟨hnd, hf⟩, hr⟩ := hc
      simp only at h ⊢
      simp only [aText] at h
      cases h1 : aOne P X call ops st i with
      | none => simp [h1] at h
      | some st1 =>
        simp only [h1] at h
        obtain ⟨hole, s1, s2, s3⟩ := sim_float R hs ho hf hnd ((readyIn_iff ho).1 hr) h1 hT hH
        obtain ⟨pend', q1, q2, q3, q4, q5, q6⟩ := sim_floats R l (i + 1) _ _ st1 hl' s1 s2 s3 h
        have e1 : pend ++ [(i, hole)] ++ pend' = pend ++ ((i, hole) :: pend') := by simp
        rw [e1] at q1 q2 q3
        refine ⟨(i, hole) :: pend', q1, q2, q3, fun p hp => ?_, fun j hj => ?_, fun j oj hij hoj hfj hdj => ?_⟩
        · rcases List.mem_cons.1 hp with rfl | hp
          · simp
          · exact List.mem_cons_of_mem _ (q4 p hp)
        · rw [q5 j (by omega), getD_set hdl, if_neg (by omega)]
        · by_cases e : j = i
          · subst e
            rw [q5 j (by omega), getD_set hdl, if_pos rfl] at hdj
            cases hdj
          · exact q6 j oj (by omega) hoj hfj hdj
    · rw [if_neg hc] at h ⊢
      obtain ⟨pend', q1, q2, q3, q4, q5, q6⟩ := sim_floats R l (i + 1) done pend st hl' hs hT hH h
      refine ⟨pend', q1, q2, q3, q4, fun j hj => q5 j (by omega), fun j oj hij hoj hfj hdj => ?_⟩
      by_cases e : j = i
      · subst e
        rw [ho] at hoj; cases hoj
        rw [q5 j (by omega)] at hdj
        rw [edgelt ho (Nat.le_refl _) fun x hx => q5 x (by omega)]
        rw [← Bool.not_eq_true]
        intro hr
        apply hc
        rw [getD_true hdl, hdj, hfj, hr]; rfl
      · exact q6 j oj (by omega) hoj hfj hdj
end
end
end Go.Cx

/-
  A REGION WHOSE ORDER IS OPEN IS AS THE INTERPRETER HAS IT.
-/
namespace Go.Cx
noncomputable section
open Go Go.Conc

section
variable {P : Program} {Post : Value → World → Prop} {B : Nat} {w₀ : World} {K0 : List Nat} {ops : Array Oper} {st st' : AS} {done : List Bool} {pend : Pend} {listed : Array Bool} {env : Env} {a : Act} {S : Option (Nat × List Value)} {w : World} {X : Orc} {call : CallF}

theorem aOne_t {c : Nat} {o : Oper} (ho : ops[c]? = some o) (h1 : aOne P X call ops st c = some st') : st'.n = st.n ∧ ∀ d, o.dst ≠ some d → st'.t.get d = st.t.get d := by
  have key : ∀ {s0 : AS} {v : AV}, s0.put o.dst v = some st' → s0.t = st.t → s0.n = st.n → st'.n = st.n ∧ ∀ d, o.dst ≠ some d → st'.t.get d = st.t.get d := by
    intro s0 v hp e1 e2
    obtain ⟨p1, _, _, p4, _⟩ := put_spec hp
    exact ⟨p1.trans e2, fun d hd => (p4 d hd).trans (by rw [e1])⟩
  unfold aOne at h1
  simp only [ho] at h1
  split at h1
  · split at h1
    · exact key h1 rfl rfl
    · exact key h1 rfl rfl
    · split at h1
      · exact key h1 rfl rfl
      · cases h1
    · split at h1
      · split at h1
        · exact key h1 rfl rfl
        · cases h1
      · cases h1
    · split at h1
      · split at h1
        · exact key h1 rfl rfl
        · cases h1
      · split at h1
        · exact key h1 rfl rfl
        · cases h1
      · cases h1
    · split at h1
      · exact key h1 rfl rfl
      · cases h1
  · exact key h1 rfl rfl

/-- One that does not float. -/
theorem sim_chain (R : Reg P ops) (hs : Sim P ops K0 st done pend listed) {c : Nat} {o : Oper} (ho : ops[c]? = some o) (hc : done.getD c false = false) (hr : ∀ e, EdgeOf ops e c → listed.getD e false = true)
    (h1 : aOne P X call ops st c = some st') (hst : ∀ p ∈ pend, aStill P ops st' p.1 = true) : Sim P ops K0 st' (done.set c true) pend (listed.setIfInBounds c true) := by
  have hlt := op_lt ho
  have hdl : c < done.length := by rw [hs.dlen]; exact hlt
  have hll : c < listed.size := by rw [hs.llen]; exact hlt
  obtain ⟨k1, same⟩ := aOne_t ho h1
  have notAnc : ∀ p ∈ pend, Anc ops c p.1 → False := fun p hp ha => by
    have := anc_down hs.ddown ha fun e he => hs.ddown e _ he (hs.pdone p hp).2
    simp only [hc] at this
    cases this
  have hne : ∀ p ∈ pend, p.1 ≠ c := fun p hp e => by
    have := (hs.pdone p hp).2
    rw [e, hc] at this; cases this
  have ldone : ∀ e, e < ops.size → listed.getD e false = true → done.getD e false = true := fun e he hl => ((hs.lst e he).1 hl).1
  have edgelt : ∀ e j, EdgeOf ops e j → e < ops.size := fun e j he => by
    have := R.lt e j he
    obtain ⟨oj, hoj, _⟩ := he
    have := op_lt hoj
    omega
  refine ⟨by simp [hs.dlen], by simp [hs.llen], fun i hi => ?_, fun p hp => ?_, fun e q he hq => ?_, fun e q he hq => ?_, hs.pw, hs.k0, fun p hp => ?_⟩
  · rw [agetD_set hll, getD_set hdl]
    by_cases e : c = i
    · subst e
      simp only [if_true, true_iff, true_and]
      exact fun p hp => hne p hp
    · rw [if_neg e, if_neg e]
      exact hs.lst i hi
  · refine ⟨(hs.pdone p hp).1, ?_⟩
    rw [getD_set hdl]
    split
    · rfl
    · exact (hs.pdone p hp).2
  · simp only [getD_set hdl] at hq ⊢
    split
    · rfl
    · split at hq
      · rename_i e2; subst e2
        exact ldone e (edgelt e _ he) (hr e he)
      · exact hs.ddown e q he hq
  · simp only [agetD_set hll] at hq ⊢
    split
    · rfl
    · split at hq
      · rename_i e2; subst e2; exact hr e he
      · exact hs.ldown e q he hq
  · obtain ⟨op, d, hop, hf, hd, hdn, hcase⟩ := hs.del p hp
    have sameOp : ∀ t, .tmp t ∈ op.op.operands.toList → st'.t.get t = st.t.get t := fun t ht => same t fun e => by
      rcases R.use c p.1 op o t hop ho e ht with h2 | ⟨_, h2⟩
      · exact notAnc p hp h2
      · have := anc_down hs.ldown h2 hr
        exact ((hs.lst p.1 (hs.pdone p hp).1).1 this).2 p hp rfl
    have sameG : ∀ g w d', op.guard = some (g, w) → (ops[g]?).bind (·.dst) = some d' → st'.t.get d' = st.t.get d' := fun g w0 d' hg hd' => same d' fun e => by
      cases hgo : ops[g]? with
      | none => rw [hgo] at hd'; cases hd'
      | some og =>
        rw [hgo] at hd'
        have e2 := R.one c g og o d' hgo ho e hd'
        have hself := R.guard p.1 op g w0 hop hg
        rw [← e2] at hself
        exact notAnc p hp hself
    have sameD : st'.t.get d = st.t.get d := same d fun e => hne p hp (R.one p.1 c o op d ho hop hd e)
    have hstill := hst p hp
    unfold aStill at hstill
    simp only [hop] at hstill
    refine ⟨op, d, hop, hf, hd, by rw [k1]; exact hdn, ?_⟩
    rw [aWanted_same sameG, sameD]
    rcases hcase with h2 | ⟨hw, hm, hp2, v, ha, hg⟩ | ⟨hw, hm, mk, blk, b0, blk0, hmk, hpl, ha, hp2, hg, hb0, hsb⟩
    · exact .inl h2
    · refine .inr (.inl ⟨hw, hm, hp2, v, ?_, hg⟩)
      rw [aWanted_same sameG, if_pos hw, hm, if_neg (by simp)] at hstill
      rw [rho_same sameOp]
      cases hrd : isRead op with
      | false => exact (flo_pure hf hm ha).2 st'.h fun e => by rw [hrd] at e; cases e
      | true =>
        rw [hrd, if_pos rfl, hd, rho_same sameOp] at hstill
        split at hstill
        · rename_i d' v' h2 e1 e2
          cases e1
          simp only [sameD, hg] at hstill
          have := eqv_eq hstill
          subst this
          obtain ⟨e3, _⟩ := flo_pure hf hm e2
          rw [e3] at e2
          exact e2
        · cases hstill
    · refine .inr (.inr ?_)
      rw [aWanted_same sameG, if_pos hw, hm, if_pos rfl, hd, rho_same sameOp] at hstill
      split at hstill
      · rename_i d' v' h2 e1 e2
        cases e1
        rw [sameD, hg] at hstill
        obtain ⟨mk', blk', hmk', hpl', g1, g2, g3⟩ := flo_make hf hm e2
        subst g1; subst g2
        rw [push_get] at hstill
        simp only at hstill
        obtain ⟨b1, blk1, q1, q2, q3⟩ := sameMade_spec hmk' rfl hstill
        obtain ⟨e5, e6⟩ := mk_inj' hmk hmk' q1
        subst e5; subst e6
        refine ⟨hw, hm, mk, blk', b0, blk1, hmk, hpl', ?_, hp2, hg, q2, q3⟩
        rw [rho_same sameOp]
        exact e2
      · cases hstill

theorem mem_chains {x : Nat} : ∀ (l : List Oper) (i : Nat), l = ops.toList.drop i → (x ∈ chains P l i done ↔ i ≤ x ∧ ∃ o, ops[x]? = some o ∧ done.getD x true = false ∧ isFlo P o = false ∧ readyIn done o = true)
  | [], i, hl => by
    simp only [chains, List.not_mem_nil, false_iff]
    rintro ⟨h1, o, h2, _⟩
    have := op_lt h2
    have := congrArg List.length hl
    simp at this; omega
  | o :: l, i, hl => by
    have ho : ops[i]? = some o := by
      have : (ops.toList.drop i)[0]? = some o := by rw [← hl]; rfl
      rw [List.getElem?_drop] at this
      simpa using this
    have hl' : l = ops.toList.drop (i + 1) := by
      have : (o :: l).drop 1 = (ops.toList.drop i).drop 1 := by rw [hl]
      rw [List.drop_drop] at this
      simpa using this
    have ih := mem_chains (x := x) l (i + 1) hl'
    unfold chains
    by_cases hc : (!done.getD i true && !isFlo P o && readyIn done o) = true
    · rw [if_pos hc, List.mem_cons, ih]
      simp only [Bool.and_eq_true, Bool.not_eq_true'] at hc
      constructor
      · rintro (rfl | ⟨h1, h2⟩)
        · exact ⟨Nat.le_refl _, o, ho, hc.1.1, hc.1.2, hc.2⟩
        · exact ⟨by omega, h2⟩
      · rintro ⟨h1, h2⟩
        by_cases e : x = i
        · exact .inl e
        · exact .inr ⟨by omega, h2⟩
    · rw [if_neg hc, ih]
      constructor
      · rintro ⟨h1, h2⟩; exact ⟨by omega, h2⟩
      · rintro ⟨h1, o', h2, h3, h4, h5⟩
        refine ⟨?_, o', h2, h3, h4, h5⟩
        by_cases e : x = i
        · subst e
          rw [ho] at h2; cases h2
          exact absurd (by rw [h3, h4, h5]; rfl) hc
        · omega

/-- What remains, behind the floats of a stage. -/
def Rem (P : Program) (X : Orc) (call : CallF) (ops : Array Oper) (st : AS) (done : List Bool) (old : List Nat) (stF : AS) : Prop :=
  (chains P ops.toList 0 done = [] ∧ done.all id = true ∧ stF = st) ∨
  ∃ c k L st2, chains P ops.toList 0 done = [c] ∧ aOne P X call ops st c = some st2 ∧ (old.filter fun i => !comesBefore (masks ops.toList 0 .nil) i c).all (aStill P ops st2) = true ∧
    stages P ops.toList (masks ops.toList 0 .nil) k old (done.set c true) = some L ∧ aDrawn P X call ops L st2 = some stF

theorem stage_next {k : Nat} {old : List Nat} {L : List Stage} {stF : AS} (h1 : stages P ops.toList (masks ops.toList 0 .nil) k old done = some L) (h2 : aDrawn P X call ops L st = some stF) :
    ∃ st3, aText P X call ops (floats P ops.toList 0 done).1 st = some st3 ∧ Rem P X call ops st3 (floats P ops.toList 0 done).2 (old ++ (floats P ops.toList 0 done).1) stF := by
  cases k with
  | zero => simp [stages] at h1
  | succ k =>
    simp only [stages] at h1
    split at h1
    · rename_i hch
      split at h1
      · rename_i hall
        simp only [Option.some.injEq] at h1
        subst h1
        simp only [aDrawn] at h2
        exact ⟨stF, h2, .inl ⟨hch, hall, rfl⟩⟩
      · cases h1
    · rename_i c hch
      obtain ⟨L', hL', rfl⟩ := Option.map_eq_some_iff.1 h1
      simp only [aDrawn] at h2
      cases ht : aText P X call ops (floats P ops.toList 0 done).1 st with
      | none => simp [ht] at h2
      | some st3 =>
        simp only [ht] at h2
        cases h3 : aOne P X call ops st3 c with
        | none => simp [h3] at h2
        | some st4 =>
          simp only [h3] at h2
          split at h2
          · rename_i hall
            exact ⟨st3, rfl, .inr ⟨c, k, L', st4, hch, h3, hall, hL', h2⟩⟩
          · cases h2
    · cases h1

theorem mem_ready {i : Nat} : i ∈ Region.ready .any ops listed ↔ i < ops.size ∧ listed.getD i true = false ∧ ∃ o, ops[i]? = some o ∧ ∀ e ∈ edges o, listed.getD e false = true := by
  unfold Region.ready
  rw [List.mem_filter, List.mem_range]
  simp only [Bool.and_eq_true, Bool.not_eq_true']
  constructor
  · rintro ⟨h1, h2, h3⟩
    refine ⟨h1, h2, ?_⟩
    cases ho : ops[i]? with
    | none => simp [ho] at h3
    | some o =>
      refine ⟨o, rfl, fun e he => ?_⟩
      simp only [ho, Option.map_some, Option.getD_some] at h3
      unfold edges at he
      obtain ⟨x, hx, rfl⟩ := List.mem_map.1 he
      rw [List.mem_filter] at hx
      rw [← Array.all_toList, List.all_eq_true] at h3
      have := h3 x hx.1
      rw [hx.2] at this
      simpa using this
  · rintro ⟨h1, h2, o, ho, h3⟩
    refine ⟨h1, h2, ?_⟩
    simp only [ho, Option.map_some, Option.getD_some]
    rw [← Array.all_toList, List.all_eq_true]
    intro x hx
    cases hb : Region.binds .any x with
    | false => rfl
    | true =>
      have := h3 x.on (List.mem_map.2 ⟨x, List.mem_filter.2 ⟨hx, hb⟩, rfl⟩)
      simpa using this

theorem drawn_main (hX : OrcS P Post X) (hC : CallS P Post call) (R : Reg P ops) {stF : AS} {b : Frame} {k : List Item} {cs : List Frame} (hk : b.kind ≠ .early) : ∀ (fuel t : Nat) (st : AS) (done : List Bool) (old : List Nat) (pend : Pend) (listed : Array Bool) (U : List Nat) (env : Env) (a : Act) (S : Option (Nat × List Value)) (w : World),
    Sim P ops K0 st done pend listed → Rem P X call ops st done old stF → (∀ p ∈ pend, p.1 ∈ old) → (∀ j o, ops[j]? = some o → isFlo P o = true → done.getD j false = false → readyIn done o = false) →
    U.length ≤ fuel → (∀ i, i < ops.size → listed.getD i false = false → i ∈ U) → TR env (Dp ops pend) st.t st.n a → HS P B w₀ (K0 ++ holesOf pend) env st.h st.s S w →
    (∀ env' a' S' w', env.le env' → TR env' noD stF.t stF.n a' → HS P B w₀ K0 env' stF.h stF.s S' w' → Runs P Post S' (G (b.at a' (.inRegion ops [] :: k)) cs) w') →
    Runs P Post S (G (b.at a (.inRegion ops (Region.linearise.go .any ops fuel t listed []) :: k)) cs) w := by
  intro fuel
  -- all has come up
  have fin : ∀ (st : AS) (done : List Bool) (old : List Nat) (pend : Pend) (listed : Array Bool) (env : Env) (a : Act) (S : Option (Nat × List Value)) (w : World),
      Sim P ops K0 st done pend listed → Rem P X call ops st done old stF → (∀ i, i ∉ Region.ready .any ops listed) → TR env (Dp ops pend) st.t st.n a → HS P B w₀ (K0 ++ holesOf pend) env st.h st.s S w →
      (∀ env' a' S' w', env.le env' → TR env' noD stF.t stF.n a' → HS P B w₀ K0 env' stF.h stF.s S' w' → Runs P Post S' (G (b.at a' (.inRegion ops [] :: k)) cs) w') → Runs P Post S (G (b.at a (.inRegion ops [] :: k)) cs) w := by
    intro st done old pend listed env a S w hs hrem hnr hT hH hn
    -- nothing is left undone
    have hpend : pend = [] := by
      cases pend with
      | nil => rfl
      | cons p pend =>
        exfalso
        obtain ⟨op, d, hop, -⟩ := hs.del p (by simp)
        have hlt := op_lt hop
        refine hnr p.1 (mem_ready.2 ⟨hlt, ?_, op, hop, fun e he => ?_⟩)
        · rw [agetD_true (by rw [hs.llen]; exact hlt), ← Bool.not_eq_true]
          intro hl
          exact ((hs.lst p.1 hlt).1 hl).2 p (by simp) rfl
        · have hedge : EdgeOf ops e p.1 := ⟨op, hop, he⟩
          have helt := R.lt e p.1 hedge
          refine (hs.lst e (by omega)).2 ⟨hs.ddown e p.1 hedge (hs.pdone p (by simp)).2, fun q hq hqe => ?_⟩
          rcases List.mem_cons.1 hq with rfl | hq
          · omega
          · subst hqe
            exact ((List.pairwise_cons.1 hs.pw).1 q hq).1 hedge
    subst hpend
    rcases hrem with ⟨_, _, rfl⟩ | ⟨c, k', L, st2, hch, -⟩
    · exact hn env a S w (Env.le_refl _) ⟨hT.defers, hT.size, fun d hd _ => hT.val d hd fun ⟨p, hp, _⟩ => by simp at hp, hT.out⟩ (hH.weaken fun b hb => by simp [holesOf]; exact hb)
    · exfalso
      obtain ⟨_, o, ho, hd, hf, hr⟩ := (mem_chains (P := P) (ops := ops) (done := done) (x := c) ops.toList 0 (by simp)).1 (by rw [hch]; simp)
      have hlt := op_lt ho
      rw [getD_true (by rw [hs.dlen]; exact hlt)] at hd
      refine hnr c (mem_ready.2 ⟨hlt, ?_, o, ho, fun e he => ?_⟩)
      · rw [agetD_true (by rw [hs.llen]; exact hlt), ← Bool.not_eq_true]
        intro hl
        have := ((hs.lst c hlt).1 hl).1
        rw [hd] at this; cases this
      · have hedge : EdgeOf ops e c := ⟨o, ho, he⟩
        have helt := R.lt e c hedge
        exact (hs.lst e (by omega)).2 ⟨(readyIn_iff ho).1 hr e hedge, fun q hq => by simp at hq⟩
  induction fuel with
  | zero =>
    intro t st done old pend listed U env a S w hs hrem hold hnf hU hUl hT hH hn
    simp only [Region.linearise.go, List.reverse_nil]
    have hU0 : U = [] := by simpa using hU
    subst hU0
    refine fin st done old pend listed env a S w hs hrem (fun i hi => ?_) hT hH hn
    obtain ⟨h1, h2, -⟩ := mem_ready.1 hi
    rw [agetD_true (by rw [hs.llen]; exact h1)] at h2
    exact absurd (hUl i h1 h2) (by simp)
  | succ fuel ih =>
    intro t st done old pend listed U env a S w hs hrem hold hnf hU hUl hT hH hn
    simp only [Region.linearise.go]
    change Runs P Post S (G (b.at a (.inRegion ops (match (Region.ready .any ops listed)[t % (Region.ready .any ops listed).length]? with
      | some i => Region.linearise.go .any ops fuel (t / (Region.ready .any ops listed).length) (listed.setIfInBounds i true) [i]
      | none => [].reverse) :: k)) cs) w
    cases hi : (Region.ready .any ops listed)[t % (Region.ready .any ops listed).length]? with
    | none =>
      have hnil : Region.ready .any ops listed = [] := by
        cases hr : Region.ready .any ops listed with
        | nil => rfl
        | cons x xs =>
          rw [hr] at hi
          have hlt : t % (x :: xs).length < (x :: xs).length := Nat.mod_lt _ (by simp)
          simp at hi
          simp at hlt
          omega
      simp only [List.reverse_nil]
      exact fin st done old pend listed env a S w hs hrem (fun i h => by rw [hnil] at h; simp at h) hT hH hn
    | some i =>
      simp only []
      rw [linearise_go_acc, List.reverse_singleton, List.singleton_append]
      have hir : i ∈ Region.ready .any ops listed := List.mem_of_getElem? hi
      obtain ⟨hlt, hnl, o, ho, hed⟩ := mem_ready.1 hir
      rw [agetD_true (by rw [hs.llen]; exact hlt)] at hnl
      have hr : ∀ e, EdgeOf ops e i → listed.getD e false = true := fun e ⟨o', ho', he⟩ => by rw [ho] at ho'; cases ho'; exact hed e he
      have hiU : i ∈ U := hUl i hlt hnl
      have hll : i < listed.size := by rw [hs.llen]; exact hlt
      have hU' : (U.erase i).length ≤ fuel := by rw [List.length_erase_of_mem hiU]; omega
      have hUl' : ∀ j, j < ops.size → (listed.setIfInBounds i true).getD j false = false → j ∈ U.erase i := fun j hj hjl => by
        rw [agetD_set hll] at hjl
        split at hjl
        · cases hjl
        · rename_i hne
          exact (List.mem_erase_of_ne (fun e => hne e.symm)).2 (hUl j hj hjl)
      by_cases hp : ∃ p ∈ pend, p.1 = i
      · obtain ⟨p, hpm, rfl⟩ := hp
        obtain ⟨p1, p2, rfl⟩ := List.append_of_mem hpm
        refine deliver R hs hr hk hT hH fun env' a' w' hle hT' hH' => ?_
        exact ih _ st done old (p1 ++ p2) _ (U.erase p.1) env' a' S w' (hs.less rfl hr) hrem (fun q hq => hold q (by
          rcases List.mem_append.1 hq with h | h
          · exact List.mem_append_left _ h
          · exact List.mem_append_right _ (List.mem_cons_of_mem _ h))) hnf hU' hUl' hT' hH' fun env2 a2 S2 w2 hle2 => hn env2 a2 S2 w2 (Env.le_trans hle hle2)
      · have hnp : ∀ p ∈ pend, p.1 ≠ i := fun p hpm e => hp ⟨p, hpm, e⟩
        have hnd : done.getD i false = false := by
          rw [← Bool.not_eq_true]
          intro hd
          have := (hs.lst i hlt).2 ⟨hd, hnp⟩
          rw [hnl] at this; cases this
        have edgelt : ∀ e, EdgeOf ops e i → e < ops.size := fun e he => by have := R.lt e i he; omega
        have hrd : readyIn done o = true := (readyIn_iff ho).2 fun e he => ((hs.lst e (edgelt e he)).1 (hr e he)).1
        have hnf' : isFlo P o = false := by
          rw [← Bool.not_eq_true]
          intro hf
          have := hnf i o ho hf hnd
          rw [hrd] at this; cases this
        have hmem : i ∈ chains P ops.toList 0 done := (mem_chains ops.toList 0 (by simp)).2 ⟨Nat.zero_le _, o, ho, by rw [getD_true (by rw [hs.dlen]; exact hlt)]; exact hnd, hnf', hrd⟩
        rcases hrem with ⟨hch, -⟩ | ⟨c, k', L, st2, hch, h1, hag, hst, hdr⟩
        · rw [hch] at hmem; simp at hmem
        · rw [hch] at hmem
          simp only [List.mem_singleton] at hmem
          subst hmem
          have hsees : ∀ o', ops[i]? = some o' → Sees (Dp ops pend) ops o' := fun o' ho' => hs.sees R ho' hr
          have hstill : ∀ p ∈ pend, aStill P ops st2 p.1 = true := fun p hpm => by
            refine List.all_eq_true.1 hag p.1 (List.mem_filter.2 ⟨hold p hpm, ?_⟩)
            cases hcb : comesBefore (masks ops.toList 0 .nil) p.1 i with
            | false => rfl
            | true =>
              exfalso
              have := anc_down hs.ldown (before_anc hcb) hr
              exact ((hs.lst p.1 (hs.pdone p hpm).1).1 this).2 p hpm rfl
          have hsim := sim_chain R hs ho hnd hr h1 hstill
          refine one_sound hX hC hsees h1 B w₀ (K0 ++ holesOf pend) env a S w b k cs _ hk hT hH fun env' a' S' w' hle hT' hH' => ?_
          obtain ⟨st3, ht3, hrem3⟩ := stage_next hst hdr
          obtain ⟨pend', q1, q2, q3, q4, q5, q6⟩ := sim_floats R ops.toList 0 _ pend st2 (by simp) hsim hT' hH' ht3
          refine ih _ st3 _ _ (pend ++ pend') _ (U.erase i) env' a' S' w' q1 hrem3 (fun q hq => ?_) (fun j oj hoj hfj hdj => q6 j oj (Nat.zero_le _) hoj hfj hdj) hU' hUl' q2 q3 fun env2 a2 S2 w2 hle2 => hn env2 a2 S2 w2 (Env.le_trans hle hle2)
          rcases List.mem_append.1 hq with h | h
          · exact List.mem_append_left _ (hold q h)
          · exact List.mem_append_right _ (q4 q h)

/-- A region whose order is open. -/
theorem drawn_sound (hm : P.follows .mixedOrders = true) (hX : OrcS P Post X) (hC : CallS P Post call) {sg : List Stage} {id : Nat} (h1 : stagesOf P ops = some sg) (h2 : aDrawn P X call ops sg st = some st') : SndC P Post (.region id ops true) st .normal st' := by
  unfold stagesOf at h1
  split at h1
  · rename_i hreg
    have R := regOk_sound hreg
    intro B w₀ K env a S w b k cs hk hT hH hn
    refine .go rfl fun w₁ h₁ => ⟨_, _, _, stepG_region_draw, own_same' rfl (by simp), ?_⟩
    have hsch : ∀ t, Region.schedule (P.follows .mixedOrders) ops t = Region.linearise.go .any ops ops.size t (Array.replicate ops.size false) [] := fun t => by
      simp only [Region.schedule, hm, Bool.true_or, if_true]; rfl
    rw [hsch]
    have hH₁ := (hH.rely h₁).drawn (w₁.drawn + 1)
    obtain ⟨st3, ht3, hrem3⟩ := stage_next h1 h2
    have hrep : ∀ i, (List.replicate ops.size false).getD i false = false := fun i => by
      rw [List.getD_eq_getElem?_getD, List.getElem?_replicate]; split <;> rfl
    have harep : ∀ i, (Array.replicate ops.size false).getD i false = false := fun i => by
      rw [Array.getD_eq_getD_getElem?, Array.getElem?_replicate]; split <;> rfl
    have s0 : Sim P ops K st (List.replicate ops.size false) [] (Array.replicate ops.size false) :=
      ⟨by simp, by simp, (fun i _ => by rw [hrep, harep]; simp), (fun p hp => by simp at hp), (fun e j _ hj => absurd ((hrep j).symm.trans hj) (by simp)), (fun e j _ hj => absurd ((harep j).symm.trans hj) (by simp)), List.Pairwise.nil, (fun p hp => by simp at hp), (fun p hp => by simp at hp)⟩
    obtain ⟨pend', q1, q2, q3, q4, q5, q6⟩ := sim_floats R ops.toList 0 _ [] st (by simp) s0 (⟨hT.defers, hT.size, fun d hd _ => hT.val d hd fun h => h, hT.out⟩ : TR env (Dp ops []) st.t st.n a) (hH₁.weaken fun b hb => by simpa [holesOf] using hb) ht3
    refine drawn_main hX hC R hk ops.size _ st3 _ _ ([] ++ pend') _ (List.range ops.size) env a S _ q1 hrem3 (fun p hp => List.mem_append_right _ (q4 p (by simpa using hp))) (fun j o ho hf hd => q6 j o (Nat.zero_le _) ho hf hd) (by simp) (fun i hi _ => List.mem_range.2 hi) q2 q3 fun env' a' S' w' hle hT' hH' => ?_
    exact .ctl rfl (fun w₂ => stepG_region_end) (hn env' a' S' w' hle hT' hH')
  · cases h1
end
end
end Go.Cx

/-
  CODE AND FUNCTIONS: THE INTERPRETER IS SOUND.
-/
namespace Go.Cx
noncomputable section
open Go Go.Conc

section
variable {P : Program} {Post : Value → World → Prop} {B : Nat} {w₀ : World} {K : List Nat} {env : Env} {a : Act} {s : Option (Nat × List AV)} {S : Option (Nat × List Value)} {w : World} {st st' : AS} {X : Orc} {call : CallF}

/-! ### results -/
def resultSem (a : Act) : ResultVar → Sem Value
  | .tmp t => pure (a.tmps.getD t undef)
  | .cell x t => do loadVar t (← asAddr (a.tmps.getD x undef))

theorem TR.slot (hT : TR env noD st.t st.n a) (t : Tmp) : VR env ((st.t.get t).getD (.tuple [])) (a.tmps.getD t undef) := by
  by_cases ht : t < st.n
  · exact hT.val t ht fun h => h
  · rw [hT.out t (Nat.le_of_not_lt ht)]
    have : a.tmps.getD t undef = undef := by
      rw [Array.getD_eq_getD_getElem?, Array.getElem?_eq_none (by rw [hT.size]; exact Nat.le_of_not_lt ht)]; rfl
    rw [this]
    exact vr_undef env

theorem result_sound (hT : TR env noD st.t st.n a) (hH : HS P B w₀ K env st.h s S w) {r : ResultVar} {v : AV} (h : aResult P st r = some v) : ∃ V, Does P (resultSem a r) w V w ∧ VR env v V := by
  cases r with
  | tmp t =>
    simp only [aResult, Option.some.injEq] at h
    subst h
    exact ⟨_, .pure _ _, hT.slot t⟩
  | cell x t =>
    simp only [aResult] at h
    split at h
    · rename_i b o hx
      have hv := hT.slot x
      rw [hx] at hv
      obtain ⟨ad, V, e1, e2, e3⟩ := run_load_var hH h hv
      refine ⟨V, ?_, e3⟩
      simp only [resultSem]
      rw [show a.tmps.getD x undef = .pointer (some ad) from e1]
      exact .bind (.pure _ _) (.of_calm e2 (calm_loadVar _ _))
    · cases h

theorem results_sound (hT : TR env noD st.t st.n a) (hH : HS P B w₀ K env st.h s S w) : ∀ {l : List ResultVar} {vs : List AV}, aResultAll P st l = some vs → ∃ Vs : List Value, Does P (l.mapM (resultSem a)) w Vs w ∧ VRs env vs Vs
  | [], vs, h => by
    simp [aResultAll] at h; subst h
    exact ⟨[], by simp only [List.mapM_nil]; exact .pure _ _, .nil⟩
  | r :: l, vs, h => by
    simp only [aResultAll] at h
    split at h
    · rename_i v m hv hm
      simp only [Option.some.injEq] at h; subst h
      obtain ⟨V, h1, h2⟩ := result_sound hT hH hv
      obtain ⟨Vs, h3, h4⟩ := results_sound hT hH hm
      refine ⟨V :: Vs, ?_, .cons h2 h4⟩
      simp only [List.mapM_cons]
      exact .bind h1 (.bind h3 (.pure _ _))
    · cases h

theorem Does.map {α β : Type} {x : Sem α} {f : α → β} {w w' : World} {v : α} (h : Does P x w v w') : Does P (f <$> x) w (f v) w' := .bind h (.pure _ _)

theorem ret_sound (hT : TR env noD st.t st.n a) (hH : HS P B w₀ K env st.h s S w) {fn : Func} {v : AV} (h : aResults P fn st = some v) : ∃ V, Does P (results fn a.tmps) w V w ∧ VR env v V := by
  unfold aResults at h
  have hsem : ∀ Vs : List Value, Does P (fn.results.toList.mapM (resultSem a)) w Vs w → Does P (results fn a.tmps) w (if h : Vs.toArray.size = 1 then Vs.toArray[0] else .tuple Vs.toArray) w := by
    intro Vs hd
    unfold results
    refine .bind (v := Vs.toArray) (w' := w) ?_ (.pure _ _)
    rw [Array.mapM_eq_mapM_toList]
    exact Does.map (f := List.toArray) hd
  split at h
  · rename_i v' hv
    simp only [Option.some.injEq] at h; subst h
    obtain ⟨Vs, h1, h2⟩ := results_sound hT hH hv
    cases h2 with
    | cons h3 h4 =>
      cases h4
      exact ⟨_, hsem _ h1, h3⟩
  · rename_i l hne hv
    simp only [Option.some.injEq] at h; subst h
    obtain ⟨Vs, h1, h2⟩ := results_sound hT hH hv
    refine ⟨.tuple Vs.toArray, ?_, .tuple h2⟩
    have := hsem _ h1
    rw [dif_neg] at this
    · exact this
    · intro hs
      have hl : l.length = 1 := by rw [h2.length]; simpa using hs
      match l, hl with
      | [x], _ => exact hne x rfl
  · cases h

/-- The frame is on its way out. -/
theorem stepG_leave' {fn : Func} {todo : List Item} {b c : Frame} {cs : List Frame} {v : Value} (hn : b.kind = .normal) (hd : a.defers = []) (hf : P.funcs[b.fn]? = some fn)
    (hr : (results fn a.tmps).run P w = .ok v w) :
    stepG P true (G { b.at a todo with mode := .returning } (c :: cs)) w = .go (G (c.finish v) cs) w (seen P b.fn ((results fn a.tmps).events P w #[])) := by
  simp [G, stepG, unwind, doReturn, Frame.at, hn, hd, hf, hr, GStep.after]

/-! ### code -/
theorem After.skip {b : Frame} {k : List Item} {cs : List Frame} {e : Ex} {it : Item} (hi : ∀ id, it ≠ .inBlock id) (he : e ≠ .normal) (h : After P Post S b k cs e a w) : After P Post S b (it :: k) cs e a w := by
  cases e with
  | normal => exact absurd rfl he
  | exit id =>
    obtain ⟨k', h1, h2⟩ := h
    refine ⟨k', ?_, h2⟩
    cases it <;> first
      | exact absurd rfl (hi _)
      | exact h1
  | ret => exact h

def SndL (P : Program) (Post : Value → World → Prop) (body : Code) (st : AS) (e : Ex) (st' : AS) : Prop :=
  ∀ (B : Nat) (w₀ : World) (K : List Nat) (env : Env) (a : Act) (S : Option (Nat × List Value)) (w : World) (b : Frame) (k : List Item) (cs : List Frame), b.kind ≠ .early → TR env noD st.t st.n a → HS P B w₀ K env st.h st.s S w →
    (∀ env' a' S' w', env.le env' → TR env' noD st'.t st'.n a' → HS P B w₀ K env' st'.h st'.s S' w' → After P Post S' b k cs e a' w') →
    Runs P Post S (G (b.at a (.code body :: .inLoop body :: k)) cs) w

theorem stepG_scope {b : Frame} {k : List Item} {cs : List Frame} {c : Code} : stepG P true (G (b.at a (.code (.scope c) :: k)) cs) w = .go (G (b.at a (.code c :: .inScope c :: k)) cs) w := by simp [G, stepG, stepG.exec, Frame.at]
theorem stepG_inScope {b : Frame} {k : List Item} {cs : List Frame} {c : Code} : stepG P true (G (b.at a (.inScope c :: k)) cs) w = .go (G (b.at a k) cs) w := by simp [G, stepG, stepG.exec, Frame.at]

theorem aFunc_sound (hX : OrcS P Post X) {d : Code → AS → Option (Ex × AS)} (hd : ∀ c st e st', d c st = some (e, st') → SndC P Post c st e st') : CallS P Post (aFunc P X d) := by
  intro f args h s v h' s' hcal hrun B w₀ K env Args S w fr cs hargs hH hn
  unfold aFunc at hrun
  split at hrun
  · rename_i v' h2 hx
    simp only [Option.some.injEq, Prod.mk.injEq] at hrun
    obtain ⟨rfl, rfl, rfl⟩ := hrun
    exact hX.call s hx B w₀ K env Args S w fr cs hargs hH hn
  · obtain ⟨fn, c, hf, hname, hb⟩ := enter_call hcal
    simp only [hf, hb] at hrun
    rw [enter_at Args hf hb]
    have hlen : args.length = Args.size := by rw [hargs.length]; simp
    have hT0 : TR env noD (T.ofList args) (args.length + (fn.ntmps - args.length)) { tmps := Args ++ Array.replicate (fn.ntmps - Args.size) undef, defers := [] } := by
      refine ⟨rfl, by simp [hlen], fun t ht _ => ?_, fun t ht => ?_⟩
      · rw [T.get_ofList]
        by_cases e : t < args.length
        · obtain ⟨u, U, h1, h2, h3⟩ := vrs_get' hargs e
          rw [h1]
          have : (Args ++ Array.replicate (fn.ntmps - Args.size) undef).getD t undef = U := by
            rw [Array.getD_eq_getD_getElem?, Array.getElem?_append, if_pos (by rw [← hlen]; exact e)]
            rw [Array.getElem?_toList] at h2
            rw [h2]; rfl
          rw [this]
          exact h3
        · rw [List.getElem?_eq_none (Nat.le_of_not_lt e)]
          have : (Args ++ Array.replicate (fn.ntmps - Args.size) undef).getD t undef = undef := by
            rw [Array.getD_eq_getD_getElem?, Array.getElem?_append, if_neg (by rw [← hlen]; exact e), Array.getElem?_replicate]
            split <;> rfl
          rw [this]
          exact vr_undef env
      · rw [T.get_ofList, List.getElem?_eq_none]
        exact Nat.le_trans (Nat.le_add_right _ _) ht
    have key : ∀ e st', d c { t := T.ofList args, n := args.length + (fn.ntmps - args.length), h := h, s := s } = some (e, st') → (∀ id, e ≠ .exit id) → (aResults P fn st').map (fun v => (v, st'.h, st'.s)) = some (v, h', s') →
        Runs P Post S (G ((base f).at { tmps := Args ++ Array.replicate (fn.ntmps - Args.size) undef, defers := [] } [.code c]) (fr :: cs)) w := by
      intro e st' hdc hne hres
      obtain ⟨v', hv', hr⟩ := Option.map_eq_some_iff.1 hres
      cases hr
      refine hd c _ e st' hdc B w₀ K env _ S w (base f) [] (fr :: cs) (by simp [base]) hT0 hH fun env' a' S' w' hle hT' hH' => ?_
      have leave : ∀ todo, Runs P Post S' (G { (base f).at a' todo with mode := .returning } (fr :: cs)) w' := fun todo => by
        refine .go rfl fun w₁ h₁ => ?_
        have hH₁ := hH'.rely h₁
        obtain ⟨V, hdo, hv⟩ := ret_sound hT' hH₁ hv'
        exact ⟨_, w₁, _, stepG_leave' rfl hT'.defers hf hdo.1, own_same' rfl (fun e he => by
          rcases hdo.2 _ _ (mem_seen he) with h2 | h2
          · simp at h2
          · exact h2), hn env' V S' w₁ hle hv hH₁⟩
      cases e with
      | normal => exact .ctl rfl (fun w₁ => stepG_end) (leave [])
      | exit id => exact absurd rfl (hne id)
      | ret => exact leave
    split at hrun
    · cases hrun
    · rename_i e st' hne hdc
      exact key e st' hdc (fun id he => hne id he) hrun
    · cases hrun

theorem den_sound (hm : P.follows .mixedOrders = true) (hX : OrcS P Post X) : ∀ (k : Nat) (c : Code) (st : AS) (e : Ex) (st' : AS), den P X k c st = some (e, st') → SndC P Post c st e st' ∧ ∀ body, c = .loop body → SndL P Post body st e st' := by
  intro k
  induction k with
  | zero => intro c st e st' h; simp [den] at h
  | succ k ih =>
    intro c st e st' h
    have hC : CallS P Post (aFunc P X (den P X k)) := aFunc_sound hX fun c st e st' h => (ih c st e st' h).1
    cases c with
    | skip =>
      simp [den] at h; obtain ⟨rfl, rfl⟩ := h
      exact ⟨fun B w₀ K env a S w b kk cs hk hT hH hn => .ctl rfl (fun w₁ => stepG_skip) (hn env a S w (Env.le_refl _) hT hH), fun _ hb => by cases hb⟩
    | label l =>
      simp [den] at h; obtain ⟨rfl, rfl⟩ := h
      exact ⟨fun B w₀ K env a S w b kk cs hk hT hH hn => .ctl rfl (fun w₁ => stepG_label) (hn env a S w (Env.le_refl _) hT hH), fun _ hb => by cases hb⟩
    | ret =>
      simp [den] at h; obtain ⟨rfl, rfl⟩ := h
      exact ⟨fun B w₀ K env a S w b kk cs hk hT hH hn => .ctl rfl (fun w₁ => stepG_ret') (hn env a S w (Env.le_refl _) hT hH _), fun _ hb => by cases hb⟩
    | exit id =>
      simp [den] at h; obtain ⟨rfl, rfl⟩ := h
      refine ⟨fun B w₀ K env a S w b kk cs hk hT hH hn => ?_, fun _ hb => by cases hb⟩
      obtain ⟨k', h1, h2⟩ := hn env a S w (Env.le_refl _) hT hH
      exact .ctl rfl (fun w₁ => stepG_exit h1) h2
    | seq x y =>
      simp only [den] at h
      refine ⟨fun B w₀ K env a S w b kk cs hk hT hH hn => ?_, fun _ hb => by cases hb⟩
      refine .ctl rfl (fun w₁ => stepG_seq) ?_
      split at h
      · rename_i st1 hx
        refine (ih x st _ st1 hx).1 B w₀ K env a S w b (.code y :: kk) cs hk hT hH fun env1 a1 S1 w1 hle1 hT1 hH1 => ?_
        exact (ih y st1 _ st' h).1 B w₀ K env1 a1 S1 w1 b kk cs hk hT1 hH1 fun env2 a2 S2 w2 hle2 hT2 hH2 => hn env2 a2 S2 w2 (Env.le_trans hle1 hle2) hT2 hH2
      · rename_i hne
        refine (ih x st _ st' h).1 B w₀ K env a S w b (.code y :: kk) cs hk hT hH fun env1 a1 S1 w1 hle1 hT1 hH1 => ?_
        exact (hn env1 a1 S1 w1 hle1 hT1 hH1).skip (fun id he => by cases he) (fun he => by subst he; exact hne _ h)
    | cond c x y =>
      simp only [den] at h
      refine ⟨fun B w₀ K env a S w b kk cs hk hT hH hn => ?_, fun _ hb => by cases hb⟩
      have hev : ∀ v, aRho P.globals.size st.t c = some v → VR env v (a.eval c) := fun v hv => by
        refine hT.evr hH c v ?_
        cases c with
        | tmp t => simp only [restr]; rw [if_neg (show ¬ noD t from fun h => h)]; exact hv
        | _ => exact hv
      split at h
      · rename_i hc
        have := (hev _ hc).inj_bool
        refine .ctl rfl (fun w₁ => stepG_cond this) ?_
        exact (ih x st _ st' h).1 B w₀ K env a S w b kk cs hk hT hH hn
      · rename_i hc
        have := (hev _ hc).inj_bool
        refine .ctl rfl (fun w₁ => stepG_cond this) ?_
        exact (ih y st _ st' h).1 B w₀ K env a S w b kk cs hk hT hH hn
      · cases h
    | block id x =>
      simp only [den] at h
      refine ⟨fun B w₀ K env a S w b kk cs hk hT hH hn => ?_, fun _ hb => by cases hb⟩
      refine .ctl rfl (fun w₁ => stepG_block) ?_
      split at h
      · rename_i j st1 hx
        refine (ih x st _ st1 hx).1 B w₀ K env a S w b (.inBlock id :: kk) cs hk hT hH fun env1 a1 S1 w1 hle1 hT1 hH1 => ?_
        split at h
        · rename_i e1
          subst e1
          simp only [Option.some.injEq, Prod.mk.injEq] at h
          obtain ⟨rfl, rfl⟩ := h
          exact ⟨kk, by simp [exitTo], hn env1 a1 S1 w1 hle1 hT1 hH1⟩
        · rename_i e1
          simp only [Option.some.injEq, Prod.mk.injEq] at h
          obtain ⟨rfl, rfl⟩ := h
          obtain ⟨k', h2, h3⟩ := hn env1 a1 S1 w1 hle1 hT1 hH1
          refine ⟨k', ?_, h3⟩
          have : (id == j) = false := by simp; exact fun e => e1 e.symm
          simp [exitTo, this, h2]
      · rename_i hne
        refine (ih x st _ st' h).1 B w₀ K env a S w b (.inBlock id :: kk) cs hk hT hH fun env1 a1 S1 w1 hle1 hT1 hH1 => ?_
        have hh := hn env1 a1 S1 w1 hle1 hT1 hH1
        cases e with
        | normal => exact .ctl rfl (fun w₁ => stepG_inBlock) hh
        | exit j => exact absurd h (hne j st')
        | ret => exact hh
    | loop x =>
      simp only [den] at h
      have hL : SndL P Post x st e st' := by
        intro B w₀ K env a S w b kk cs hk hT hH hn
        split at h
        · rename_i st1 hx
          refine (ih x st _ st1 hx).1 B w₀ K env a S w b (.inLoop x :: kk) cs hk hT hH fun env1 a1 S1 w1 hle1 hT1 hH1 => ?_
          refine .ctl rfl (fun w₁ => stepG_inLoop) ?_
          exact (ih (.loop x) st1 _ st' h).2 x rfl B w₀ K env1 a1 S1 w1 b kk cs hk hT1 hH1 fun env2 a2 S2 w2 hle2 hT2 hH2 => hn env2 a2 S2 w2 (Env.le_trans hle1 hle2) hT2 hH2
        · rename_i hne
          refine (ih x st _ st' h).1 B w₀ K env a S w b (.inLoop x :: kk) cs hk hT hH fun env1 a1 S1 w1 hle1 hT1 hH1 => ?_
          exact (hn env1 a1 S1 w1 hle1 hT1 hH1).skip (fun id he => by cases he) (fun he => by subst he; exact hne _ h)
      exact ⟨fun B w₀ K env a S w b kk cs hk hT hH hn => .ctl rfl (fun w₁ => stepG_loop) (hL B w₀ K env a S w b kk cs hk hT hH hn), fun _ hb => by cases hb; exact hL⟩
    | scope x =>
      simp only [den] at h
      refine ⟨fun B w₀ K env a S w b kk cs hk hT hH hn => ?_, fun _ hb => by cases hb⟩
      refine .ctl rfl (fun w₁ => stepG_scope) ?_
      refine (ih x st _ st' h).1 B w₀ K env a S w b (.inScope x :: kk) cs hk hT hH fun env1 a1 S1 w1 hle1 hT1 hH1 => ?_
      have hh := hn env1 a1 S1 w1 hle1 hT1 hH1
      cases e with
      | normal => exact .ctl rfl (fun w₁ => stepG_inScope) hh
      | exit j => exact hh.skip (fun id he => by cases he) (by simp)
      | ret => exact hh
    | region id ops draw =>
      refine ⟨?_, fun _ hb => by cases hb⟩
      cases draw with
      | false =>
        simp only [den] at h
        obtain ⟨st1, ht, hr⟩ := Option.map_eq_some_iff.1 h
        cases hr
        intro B w₀ K env a S w b kk cs hk hT hH hn
        refine .ctl rfl (fun w₁ => stepG_region) ?_
        have := text_sound hX hC ht B w₀ K env a S w b kk cs [] hk hT hH fun env1 a1 S1 w1 hle1 hT1 hH1 => ?_
        · simpa using this
        · exact .ctl rfl (fun w₁ => stepG_region_end) (hn env1 a1 S1 w1 hle1 hT1 hH1)
      | true =>
        simp only [den] at h
        split at h
        · rename_i sg hsg
          obtain ⟨st1, ht, hr⟩ := Option.map_eq_some_iff.1 h
          cases hr
          exact drawn_sound hm hX hC hsg ht
        · cases h
    | _ => simp [den] at h

/-- EVERY CALL THAT THE INTERPRETER CARRIES THROUGH IS BORNE OUT. -/
theorem runF_sound (hm : P.follows .mixedOrders = true) (hX : OrcS P Post X) (k : Nat) : CallS P Post (runF P X k) :=
  aFunc_sound hX fun c st e st' h => (den_sound hm hX k c st e st' h).1
end
end
end Go.Cx

/-
  THE INTERPRETER AS CLOSURES: what of it is settled by the code alone is reckoned once. (For the kernel: a closed term's value is kept.)
-/
namespace Go.Cx
noncomputable section
open Go Go.Conc

/-- A box for a closure. -/
inductive Cl (β : Type) where
  | mk (f : β)
def Cl.ap {β : Type} : Cl β → β
  | .mk f => f

section
variable {α : Type}
/-- Down a path. -/
noncomputable def cGet : List Bool → Cl (T α → Option α)
  | [] => .mk fun t => T.rec (motive := fun _ => Option α) none (fun v _ _ _ _ => v) t
  | b :: k => match cGet k with
    | .mk f => match b with
      | true => .mk fun t => T.rec (motive := fun _ => Option α) none (fun _ _ r _ _ => f r) t
      | false => .mk fun t => T.rec (motive := fun _ => Option α) none (fun _ l _ _ _ => f l) t
theorem cGet_eq : ∀ (k : List Bool) (t : T α), (cGet k).ap t = t.getK k
  | [], t => by cases t <;> rfl
  | b :: k, t => by
    have ih := cGet_eq k
    unfold cGet
    cases hk : cGet (α := α) k with
    | mk f =>
      rw [hk] at ih
      have ih : ∀ t, f t = t.getK k := ih
      cases b <;> cases t <;> first | rfl | exact ih _
noncomputable def cSet : List Bool → Cl (T α → α → T α)
  | [] => .mk fun t x => T.rec (motive := fun _ => T α) (.node (some x) .nil .nil) (fun _ l r _ _ => .node (some x) l r) t
  | b :: k => match cSet k with
    | .mk f => match b with
      | true => .mk fun t x => T.rec (motive := fun _ => T α) (T.mk2 none .nil (f .nil x)) (fun v l r _ _ => T.mk2 v l (f r x)) t
      | false => .mk fun t x => T.rec (motive := fun _ => T α) (T.mk1 none .nil (f .nil x)) (fun v l r _ _ => T.mk1 v r (f l x)) t
theorem cSet_eq : ∀ (k : List Bool) (t : T α) (x : α), (cSet k).ap t x = t.setK k (some x)
  | [], t, x => by cases t <;> rfl
  | b :: k, t, x => by
    have ih := cSet_eq k
    unfold cSet
    cases hk : cSet (α := α) k with
    | mk f =>
      rw [hk] at ih
      have ih : ∀ t x, f t x = t.setK k (some x) := ih
      cases b <;> cases t <;> simp only [Cl.ap, T.mk1_eq, T.mk2_eq, ih] <;> rfl
end

/-- An operand. -/
noncomputable def cRho (G : Nat) : Operand → Cl (T AV → Option AV)
  | .tmp i => match cGet (α := AV) (key i) with
    | .mk f => .mk fun t => match f t with
      | some v => some v
      | none => some (.tuple [])
  | .const v => match absV v with
    | some a => .mk fun _ => some a
    | none => .mk fun _ => none
  | .global g => match Nat.blt g G with
    | true => .mk fun _ => some (.ptr (some (g, 0)))
    | false => .mk fun _ => none
  | .func f => .mk fun _ => some (.func (.func f) [] [])
theorem cRho_eq (G : Nat) (x : Operand) (t : T AV) : (cRho G x).ap t = aRho G t x := by
  cases x with
  | tmp i =>
    simp only [cRho, aRho, T.get_eq]
    have h := cGet_eq (key i) t
    cases hk : cGet (α := AV) (key i) with
    | mk f =>
      rw [hk] at h
      have h : f t = t.getK (key i) := h
      simp only [Cl.ap, h]
      cases t.getK (key i) <;> rfl
  | const v =>
    simp only [cRho, aRho]
    cases absV v <;> rfl
  | global g =>
    simp only [cRho, aRho]
    by_cases h : g < G
    · have : Nat.blt g G = true := by simpa [Nat.blt_eq] using h
      rw [this, if_pos h]; rfl
    · have : Nat.blt g G = false := by rw [← Bool.not_eq_true, Nat.blt_eq]; exact h
      rw [this, if_neg h]; rfl
  | func f => rfl

/-- Down a path, and up again with what is built. -/
noncomputable def cSetK {α β : Type} : List Bool → Cl (T α → α → (T α → β) → β)
  | [] => .mk fun t x k => T.rec (motive := fun _ => β) (k (.node (some x) .nil .nil)) (fun _ l r _ _ => k (.node (some x) l r)) t
  | b :: p => match cSetK p with
    | .mk f => match b with
      | true => .mk fun t x k => T.rec (motive := fun _ => β) (f .nil x fun r => k (.node none .nil r)) (fun v l r _ _ => f r x fun r' => k (.node v l r')) t
      | false => .mk fun t x k => T.rec (motive := fun _ => β) (f .nil x fun l => k (.node none l .nil)) (fun v l r _ _ => f l x fun l' => k (.node v l' r)) t
theorem cSetK_eq {α β : Type} : ∀ (p : List Bool) (t : T α) (x : α) (k : T α → β), (cSetK p).ap t x k = k (t.setK p (some x))
  | [], t, x, k => by cases t <;> rfl
  | b :: p, t, x, k => by
    have ih := cSetK_eq (α := α) (β := β) p
    unfold cSetK
    cases hk : cSetK (α := α) (β := β) p with
    | mk f =>
      rw [hk] at ih
      have ih : ∀ t x k, f t x k = k (t.setK p (some x)) := ih
      cases b <;> cases t <;> simp only [Cl.ap, ih] <;> rfl

/-- A slot. -/
noncomputable def cPut : Option Tmp → Cl (AS → AV → Option AS)
  | none => .mk fun st _ => some st
  | some d => match cSetK (α := AV) (β := Option AS) (key d) with
    | .mk f => .mk fun st v => AS.rec (motive := fun _ => Option AS) (fun t n h s => Bool.rec (motive := fun _ => Option AS) none (f t v fun t' => some (AS.mk t' n h s)) (Nat.blt d n)) st
theorem cPut_eq (dst : Option Tmp) (st : AS) (v : AV) : (cPut dst).ap st v = st.put dst v := by
  cases dst with
  | none => rfl
  | some d =>
    obtain ⟨t, n, hh, s⟩ := st
    simp only [cPut, AS.put]
    have h := cSetK_eq (β := Option AS) (key d) t v
    cases hk : cSetK (α := AV) (β := Option AS) (key d) with
    | mk f =>
      rw [hk] at h
      have h : ∀ k, f t v k = k (t.setK (key d) (some v)) := h
      simp only [Cl.ap]
      by_cases hd : d < n
      · have : Nat.blt d n = true := by simpa [Nat.blt_eq] using hd
        rw [this, if_pos hd]
        simp only [h, ← T.set_eq]
      · have : Nat.blt d n = false := by rw [← Bool.not_eq_true, Nat.blt_eq]; exact hd
        rw [this, if_neg hd]
end
end Go.Cx

/-
  OPERATIONS AS CLOSURES.
-/
namespace Go.Cx
noncomputable section
open Go Go.Conc

/-! ### numbers -/
noncomputable def kIdx (k : IntKind) : Nat := IntKind.rec (motive := fun _ => Nat) 0 1 2 3 4 5 6 7 k
noncomputable def kLim (k : IntKind) : Nat := IntKind.rec (motive := fun _ => Nat) 128 32768 2147483648 9223372036854775808 256 65536 4294967296 18446744073709551616 k
noncomputable def eqK (k k' : IntKind) : Bool := Nat.beq (kIdx k) (kIdx k')
theorem eqK_eq (k k' : IntKind) : eqK k k' = decide (k = k') := by cases k <;> cases k' <;> rfl
/-- A number brought into its range, most often as it is. -/
noncomputable def wrapF (k : IntKind) (n : Int) : Int :=
  Int.rec (motive := fun _ => Int) (fun m => Bool.rec (k.wrap (.ofNat m)) (.ofNat m) (Nat.blt m (kLim k))) (fun m => k.wrap (.negSucc m)) n
theorem wrap_lim (k : IntKind) (m : Nat) (h : m < kLim k) : k.wrap (.ofNat m) = .ofNat m := by
  unfold IntKind.wrap
  have e : (Int.ofNat m) % (2 ^ k.bits : Int) = Int.ofNat m := by
    refine Int.emod_eq_of_lt (Int.natCast_nonneg m) ?_
    cases k <;> simp [kLim, IntKind.bits] at h ⊢ <;> omega
  simp only [e]
  have : (k.signed && decide (Int.ofNat m ≥ 2 ^ (k.bits - 1))) = false := by
    cases k <;> simp [kLim, IntKind.bits, IntKind.signed] at h ⊢ <;> omega
  rw [this]; simp
theorem wrapF_eq (k : IntKind) (n : Int) : wrapF k n = k.wrap n := by
  cases n with
  | ofNat m =>
    show (Bool.rec (k.wrap (.ofNat m)) (.ofNat m) (Nat.blt m (kLim k)) : Int) = _
    cases h : Nat.blt m (kLim k) with
    | false => rfl
    | true => exact (wrap_lim k m (by simpa [Nat.blt_eq] using h)).symm
  | negSucc m => rfl
/-- Looked at. -/
noncomputable def seeInt (k : IntKind) (n : Int) : Option AV := Int.rec (motive := fun _ => Option AV) (fun m => some (.int k (.ofNat m))) (fun m => some (.int k (.negSucc m))) n
theorem seeInt_eq (k : IntKind) (n : Int) : seeInt k n = some (.int k n) := by cases n <;> rfl

/-! ### bits -/
theorem ofInt_nat (w a : Nat) : (BitVec.ofInt w (Int.ofNat a)).toNat = a % 2 ^ w := by
  rw [BitVec.toNat_ofInt]
  show ((a : Int) % ((2 ^ w : Nat) : Int)).toNat = _
  rw [← Int.natCast_emod]
  exact Int.toNat_natCast _
theorem mod_lim {k : IntKind} {a : Nat} (h : a < 2 ^ k.bits) : a % 2 ^ k.bits = a := Nat.mod_eq_of_lt h
noncomputable def kBit (k : IntKind) : Nat := IntKind.rec (motive := fun _ => Nat) 256 65536 4294967296 18446744073709551616 256 65536 4294967296 18446744073709551616 k
theorem kBit_eq (k : IntKind) : kBit k = 2 ^ k.bits := by cases k <;> rfl
/-- Two numbers' bits. -/
noncomputable def bitF (f : Nat → Nat → Nat) (k : IntKind) (a b : Int) (g : Option AV) : Option AV :=
  Int.rec (motive := fun _ => Option AV) (fun m => Int.rec (motive := fun _ => Option AV) (fun n => Bool.rec (motive := fun _ => Option AV) g (Bool.rec (motive := fun _ => Option AV) g (seeInt k (wrapF k (.ofNat (f m n)))) (Nat.blt n (kBit k))) (Nat.blt m (kBit k))) (fun _ => g) b) (fun _ => g) a
theorem bitF_eq {f : Nat → Nat → Nat} {k : IntKind} {a b : Int} {g : Option AV} (h : ∀ m n : Nat, a = Int.ofNat m → b = Int.ofNat n → m < 2 ^ k.bits → n < 2 ^ k.bits → g = some (.int k (k.wrap (.ofNat (f m n))))) : bitF f k a b g = g := by
  unfold bitF
  cases a with
  | ofNat m =>
    cases b with
    | ofNat n =>
      show (Bool.rec g (Bool.rec g (seeInt k (wrapF k (.ofNat (f m n)))) (Nat.blt n (kBit k))) (Nat.blt m (kBit k)) : Option AV) = g
      cases h1 : Nat.blt m (kBit k) with
      | false => rfl
      | true =>
        cases h2 : Nat.blt n (kBit k) with
        | false => rfl
        | true =>
          show seeInt k (wrapF k (.ofNat (f m n))) = g
          rw [seeInt_eq, wrapF_eq]
          rw [kBit_eq, Nat.blt_eq] at h1 h2
          exact (h m n rfl rfl h1 h2).symm
    | negSucc n => rfl
  | negSucc m => rfl

section
variable (P : Program)
/-- An operator on two numbers. -/
noncomputable def cArith (f : IntKind → Int → Int → Option AV) (g : AV → AV → Option AV) : AV → AV → Option AV := fun x y =>
  match x with
  | .int k a => match y with
    | .int k' b => match eqK k k' with
      | true => f k a b
      | false => none
    | y => g (.int k a) y
  | x => g x y
noncomputable def cBin (op : BinOp) (t : TypeId) (c : Bool) : Cl (AV → AV → Option AV) :=
  match op with
  | .add => .mk (cArith (fun k a b => seeInt k (wrapF k (a + b))) (aBin P .add t c))
  | .sub => .mk (cArith (fun k a b => seeInt k (wrapF k (a - b))) (aBin P .sub t c))
  | .mul => .mk (cArith (fun k a b => seeInt k (wrapF k (a * b))) (aBin P .mul t c))
  | .eql => .mk (cArith (fun _ a b => some (.bool (a == b))) (aBin P .eql t c))
  | .neq => .mk (cArith (fun _ a b => some (.bool (a != b))) (aBin P .neq t c))
  | .lss => .mk (cArith (fun _ a b => some (.bool (decide (a < b)))) (aBin P .lss t c))
  | .leq => .mk (cArith (fun _ a b => some (.bool (decide (a ≤ b)))) (aBin P .leq t c))
  | .gtr => .mk (cArith (fun _ a b => some (.bool (decide (a > b)))) (aBin P .gtr t c))
  | .geq => .mk (cArith (fun _ a b => some (.bool (decide (a ≥ b)))) (aBin P .geq t c))
  | .and => .mk (cArith (fun k a b => bitF Nat.land k a b (aBin P .and t c (.int k a) (.int k b))) (aBin P .and t c))
  | .or => .mk (cArith (fun k a b => bitF Nat.lor k a b (aBin P .or t c (.int k a) (.int k b))) (aBin P .or t c))
  | .xor => .mk (cArith (fun k a b => bitF Nat.xor k a b (aBin P .xor t c (.int k a) (.int k b))) (aBin P .xor t c))
  | op => .mk (aBin P op t c)
theorem cArith_eq {f : IntKind → Int → Int → Option AV} {g : AV → AV → Option AV} (h : ∀ k k' a b, g (.int k a) (.int k' b) = if k ≠ k' then none else f k a b) (x y : AV) : cArith f g x y = g x y := by
  unfold cArith
  cases x <;> first
    | rfl
    | (cases y <;> first
        | rfl
        | (rename_i k a k' b
           simp only [h, eqK_eq]
           by_cases e : k = k'
           · simp [e]
           · simp [e]))
theorem cBin_eq (op : BinOp) (t : TypeId) (c : Bool) (x y : AV) : (cBin P op t c).ap x y = aBin P op t c x y := by
  cases op <;> first
    | rfl
    | (refine cArith_eq (fun k k' a b => ?_) x y
       simp only [aBin, seeInt_eq, wrapF_eq]
       done)
    | (refine cArith_eq (fun k k' a b => ?_) x y
       rw [bitF_eq fun m n e1 e2 h1 h2 => ?_]
       · simp [aBin]
       · subst e1; subst e2
         simp only [aBin, ne_eq, not_true_eq_false, if_false, BitVec.toNat_and, BitVec.toNat_or, BitVec.toNat_xor, ofInt_nat, mod_lim h1, mod_lim h2]
         rfl)
end
end
end Go.Cx

/-
  AN OPERATION WITH ITS OPERANDS AND ITS SLOT, AS A CLOSURE.
-/
namespace Go.Cx
noncomputable section
open Go Go.Conc
section
variable (P : Program) (X : Orc)

/-- What an operation that is wanted does. -/
def aAct (call : CallF) (o : Oper) (st : AS) : Option AS :=
  match aop P (aRho P.globals.size st.t) o st.h with
  | some (.val v, h) => AS.put { st with h := h } o.dst v
  | some (.skip, h) => AS.put { st with h := h } o.dst (.tuple [])
  | some (.call f args, h) => match call f args h st.s with
    | some (v, h', s') => AS.put { st with h := h', s := s' } o.dst v
    | none => none
  | some (.go f args, h) => match st.s, X.go f args with
    | none, some (b, vs) => match h.t.get b with
      | some (.chan 0) => AS.put { st with h := { h with t := h.t.set b (.chan 1) }, s := some (b, vs) } o.dst (.tuple [])
      | _ => none
    | _, _ => none
  | some (.recv b z, h) => match st.s with
    | some (b', v :: vs) => if b = b' then AS.put { st with h := h, s := some (b, vs) } o.dst (.tuple [v, .bool true]) else none
    | some (b', []) => if b = b' then AS.put { st with h := { h with t := h.t.set b (.chan 2) }, s := none } o.dst (.tuple [z, .bool false]) else none
    | none => none
  | none => match aExt P X (aRho P.globals.size st.t) o st.h with
    | some (v, h) => AS.put { st with h := h } o.dst v
    | none => none
theorem aOne_act (call : CallF) (ops : Array Oper) (st : AS) (i : Nat) : aOne P X call ops st i = match ops[i]? with
    | none => none
    | some o => if aWanted ops o st.t then aAct P X call o st else AS.put st o.dst (.tuple []) := rfl

abbrev ActF := CallF → AS → Option AS

/-- A value reckoned of the slots, put into a slot. -/
noncomputable def cVal (dst : Option Tmp) (f : AS → Option AV) : Cl ActF :=
  match cPut dst with
  | .mk p => .mk fun _ st => match f st with
    | some v => p st v
    | none => none
theorem cVal_eq {o : Oper} {f : AS → Option AV} (hc : isCall o = false) (h : ∀ st, aop P (aRho P.globals.size st.t) o st.h = retV st.h (f st)) (call : CallF) (st : AS) : (cVal o.dst f).ap call st = aAct P X call o st := by
  unfold cVal aAct
  rw [h]
  have hp := cPut_eq o.dst st
  cases hk : cPut o.dst with
  | mk p =>
    rw [hk] at hp
    simp only [Cl.ap] at hp ⊢
    cases f st with
    | none => simp [retV, aExt, hc]
    | some v => exact hp v

/-- Which field lies where. -/
def fieldOff (t : TypeId) (f : Nat) : Option Nat := match P.underlying t with
  | some (.struct fields) => match fields[f]? with
    | some fd => match aSize P fd.type with
      | some (_ + 1) => some fd.offset
      | _ => none
    | none => none
  | _ => none
def isConstO : Operand → Bool
  | .const _ => true
  | _ => false

theorem constO (x y : Operand) : (match x, y with | .const _, _ => true | _, .const _ => true | _, _ => false) = (isConstO x || isConstO y) := by cases x <;> cases y <;> rfl

noncomputable def cAct (o : Oper) : Cl ActF :=
  match o.op with
  | .move x => match cRho P.globals.size x with
    | .mk f => cVal o.dst fun st => f st.t
  | .assign x => match cRho P.globals.size x with
    | .mk f => cVal o.dst fun st => f st.t
  | .binOp op t x y _ => match cRho P.globals.size x, cRho P.globals.size y, cBin P op t (isConstO x || isConstO y) with
    | .mk f, .mk g, .mk b => cVal o.dst fun st => match f st.t, g st.t with
      | some u, some v => b u v
      | _, _ => none
  | .load t x => match cRho P.globals.size x with
    | .mk f => cVal o.dst fun st => match f st.t with
      | some (.ptr (some (b, off))) => aLoad P st.h t b off
      | _ => none
  | .fieldAddr t x n => match cRho P.globals.size x, fieldOff P t n with
    | .mk f, some off => cVal o.dst fun st => match f st.t with
      | some (.ptr (some (b, k))) => some (.ptr (some (b, k + off)))
      | _ => none
    | .mk _, none => .mk fun _ _ => none
  | .indexAddr t x i => match cRho P.globals.size x, cRho P.globals.size i with
    | .mk f, .mk g => cVal o.dst fun st => match f st.t, g st.t with
      | some u, some v => aIndexAddr P t u v
      | _, _ => none
  | .index t x i => match cRho P.globals.size x, cRho P.globals.size i with
    | .mk f, .mk g => cVal o.dst fun st => match f st.t, g st.t with
      | some u, some v => aIndex P t u v
      | _, _ => none
  | .field t x n => match cRho P.globals.size x with
    | .mk f => cVal o.dst fun st => match f st.t with
      | some u => aField P t u n
      | _ => none
  | .extract x i => match cRho P.globals.size x with
    | .mk f => cVal o.dst fun st => match f st.t with
      | some (.tuple l) => l[i]?
      | _ => none
  | .unOp op _ x => match cRho P.globals.size x with
    | .mk f => cVal o.dst fun st => match f st.t with
      | some u => aUn op u
      | _ => none
  | .slice t x lo hi mx => cVal o.dst fun st => match aRho P.globals.size st.t x, evalOpt (aRho P.globals.size st.t) lo, evalOpt (aRho P.globals.size st.t) hi, evalOpt (aRho P.globals.size st.t) mx with
    | some v, some l, some hh, some m => aSlice P t v l hh m
    | _, _, _, _ => none
  | _ => .mk fun call st => aAct P X call o st

theorem rho_mk {G : Nat} {x : Operand} {f : T AV → Option AV} (h : cRho G x = .mk f) (t : T AV) : f t = aRho G t x := by
  have := cRho_eq G x t
  rw [h] at this
  exact this

theorem cAct_eq (o : Oper) (call : CallF) (st : AS) : (cAct P X o).ap call st = aAct P X call o st := by
  unfold cAct
  cases hop : o.op with
  | move x =>
    simp only
    cases hx : cRho P.globals.size x with
    | mk f =>
      exact cVal_eq P X (by simp [isCall, hop]) (fun st => by unfold aop; simp only [hop, rho_mk hx]) call st
  | assign x =>
    simp only
    cases hx : cRho P.globals.size x with
    | mk f =>
      exact cVal_eq P X (by simp [isCall, hop]) (fun st => by unfold aop; simp only [hop, rho_mk hx]) call st
  | binOp op t x y ty =>
    simp only
    cases hx : cRho P.globals.size x with
    | mk f =>
      cases hy : cRho P.globals.size y with
      | mk g =>
        have hb := cBin_eq P op t (isConstO x || isConstO y)
        cases hc : cBin P op t (isConstO x || isConstO y) with
        | mk b =>
          rw [hc] at hb
          have hb : ∀ u v, b u v = aBin P op t (isConstO x || isConstO y) u v := hb
          refine cVal_eq P X (by simp [isCall, hop]) (fun st => ?_) call st
          unfold aop
          simp only [hop, rho_mk hx, rho_mk hy]
          cases aRho P.globals.size st.t x with
          | none => rfl
          | some u =>
            cases aRho P.globals.size st.t y with
            | none => rfl
            | some v =>
              simp only [hb]
              exact congrArg (fun c => retV st.h (aBin P op t c u v)) (constO x y)
  | load t x =>
    simp only
    cases hx : cRho P.globals.size x with
    | mk f =>
      refine cVal_eq P X (by simp [isCall, hop]) (fun st => ?_) call st
      unfold aop
      simp only [hop, rho_mk hx]
      split
      · rename_i h1; simp only [h1]
      · rename_i h1
        split
        · rename_i h2; exact absurd h2 (h1 _ _)
        · rfl
  | fieldAddr t x n =>
    simp only
    cases hx : cRho P.globals.size x with
    | mk f =>
      have key : ∀ st : AS, aop P (aRho P.globals.size st.t) o st.h = retV st.h (match fieldOff P t n with
          | some off => match f st.t with
            | some (.ptr (some (b, k))) => some (.ptr (some (b, k + off)))
            | _ => none
          | none => none) := by
        intro st
        unfold aop
        simp only [hop, rho_mk hx]
        cases aRho P.globals.size st.t x with
        | none => cases fieldOff P t n <;> rfl
        | some u =>
          simp only [aFieldAddr, fieldOff]
          cases P.underlying t with
          | none => rfl
          | some d =>
            cases d with
            | struct fields =>
              simp only
              cases hf : fields[n]? with
              | none => cases u <;> first | rfl | (rename_i p; cases p <;> simp [hf])
              | some fd =>
                simp only
                cases hs : aSize P fd.type with
                | none => cases u <;> first | rfl | (rename_i p; cases p <;> simp [hf, hs])
                | some m =>
                  cases m with
                  | zero => cases u <;> first | rfl | (rename_i p; cases p <;> simp [hf, hs])
                  | succ m => cases u <;> first | rfl | (rename_i p; cases p <;> simp [hf, hs])
            | _ => rfl
      cases hfo : fieldOff P t n with
      | none =>
        simp only [Cl.ap]
        unfold aAct
        rw [key st, hfo]
        simp [retV, aExt, isCall, hop]
      | some off => exact cVal_eq P X (by simp [isCall, hop]) (fun st => by rw [key st, hfo]) call st
  | indexAddr t x i =>
    simp only
    cases hx : cRho P.globals.size x with
    | mk f =>
      cases hy : cRho P.globals.size i with
      | mk g =>
        refine cVal_eq P X (by simp [isCall, hop]) (fun st => ?_) call st
        unfold aop
        simp only [hop, rho_mk hx, rho_mk hy]
        cases aRho P.globals.size st.t x <;> cases aRho P.globals.size st.t i <;> rfl
  | index t x i =>
    simp only
    cases hx : cRho P.globals.size x with
    | mk f =>
      cases hy : cRho P.globals.size i with
      | mk g =>
        refine cVal_eq P X (by simp [isCall, hop]) (fun st => ?_) call st
        unfold aop
        simp only [hop, rho_mk hx, rho_mk hy]
        cases aRho P.globals.size st.t x <;> cases aRho P.globals.size st.t i <;> rfl
  | field t x n =>
    simp only
    cases hx : cRho P.globals.size x with
    | mk f =>
      refine cVal_eq P X (by simp [isCall, hop]) (fun st => ?_) call st
      unfold aop
      simp only [hop, rho_mk hx]
      cases aRho P.globals.size st.t x <;> rfl
  | extract x i =>
    simp only
    cases hx : cRho P.globals.size x with
    | mk f =>
      refine cVal_eq P X (by simp [isCall, hop]) (fun st => ?_) call st
      unfold aop
      simp only [hop, rho_mk hx]
      cases aRho P.globals.size st.t x with
      | none => rfl
      | some u => cases u <;> rfl
  | unOp op t x =>
    simp only
    cases hx : cRho P.globals.size x with
    | mk f =>
      refine cVal_eq P X (by simp [isCall, hop]) (fun st => ?_) call st
      unfold aop
      simp only [hop, rho_mk hx]
      cases aRho P.globals.size st.t x <;> rfl
  | slice t x lo hi mx =>
    refine cVal_eq P X (by simp [isCall, hop]) (fun st => ?_) call st
    unfold aop
    simp only [hop]
    cases aRho P.globals.size st.t x <;> cases evalOpt (aRho P.globals.size st.t) lo <;> cases evalOpt (aRho P.globals.size st.t) hi <;> cases evalOpt (aRho P.globals.size st.t) mx <;> rfl
  | _ => rfl
end
end
end Go.Cx

/-
  CODE AND FUNCTIONS AS CLOSURES.
-/
namespace Go.Cx
noncomputable section
open Go Go.Conc
section
variable (P : Program) (X : Orc)

noncomputable def cOne (ops : Array Oper) (o : Oper) : Cl ActF :=
  match o.guard with
  | none => cAct P X o
  | some _ => match cAct P X o, cPut o.dst with
    | .mk f, .mk p => .mk fun call st => match aWanted ops o st.t with
      | true => f call st
      | false => p st (.tuple [])
theorem cOne_eq (ops : Array Oper) (o : Oper) (call : CallF) (st : AS) : (cOne P X ops o).ap call st = if aWanted ops o st.t then aAct P X call o st else AS.put st o.dst (.tuple []) := by
  unfold cOne
  cases hg : o.guard with
  | none =>
    have : aWanted ops o st.t = true := by unfold aWanted; rw [hg]
    rw [if_pos this]
    exact cAct_eq P X o call st
  | some x =>
    have h1 := cAct_eq P X o call st
    have h2 := cPut_eq o.dst st (.tuple [])
    simp only
    cases ha : cAct P X o with
    | mk f =>
      cases hp : cPut o.dst with
      | mk p =>
        rw [ha] at h1
        rw [hp] at h2
        simp only [Cl.ap] at h1 h2 ⊢
        cases hw : aWanted ops o st.t with
        | true => rw [if_pos rfl]; exact h1
        | false => rw [if_neg (by simp)]; exact h2

noncomputable def cIdx (ops : Array Oper) : List Nat → Cl ActF
  | [] => .mk fun _ st => some st
  | i :: l => match ops[i]? with
    | none => .mk fun _ _ => none
    | some o => match cOne P X ops o, cIdx ops l with
      | .mk f, .mk g => .mk fun call st => match f call st with
        | some st' => g call st'
        | none => none
theorem cIdx_eq (ops : Array Oper) (call : CallF) : ∀ (l : List Nat) (st : AS), (cIdx P X ops l).ap call st = aText P X call ops l st
  | [], st => rfl
  | i :: l, st => by
    simp only [cIdx, aText, aOne_act]
    cases ho : ops[i]? with
    | none => rfl
    | some o =>
      have h1 := cOne_eq P X ops o call
      have h2 := cIdx_eq ops call l
      simp only
      cases hf : cOne P X ops o with
      | mk f =>
        cases hg : cIdx P X ops l with
        | mk g =>
          rw [hf] at h1
          rw [hg] at h2
          simp only [Cl.ap] at h1 h2 ⊢
          rw [h1]
          cases (if aWanted ops o st.t then aAct P X call o st else AS.put st o.dst (.tuple [])) with
          | none => rfl
          | some st' => exact h2 st'

/-- Is there anything to look at again? -/
def needs (ops : Array Oper) (i : Nat) : Bool := match ops[i]? with
  | some o => isMake o || isRead o
  | none => true
theorem needs_all (ops : Array Oper) (st : AS) (l : List Nat) : (l.filter (needs ops)).all (aStill P ops st) = l.all (aStill P ops st) := by
  rw [Bool.eq_iff_iff, List.all_eq_true, List.all_eq_true]
  constructor
  · intro h i hi
    cases hn : needs ops i with
    | true => exact h i (List.mem_filter.2 ⟨hi, hn⟩)
    | false =>
      unfold needs at hn
      unfold aStill
      cases ho : ops[i]? with
      | none => rw [ho] at hn; cases hn
      | some o =>
        rw [ho] at hn
        simp only [Bool.or_eq_false_iff] at hn
        simp only [hn.1, hn.2]
        split <;> simp
  · exact fun h i hi => h i (List.mem_filter.1 hi).1

noncomputable def cDrawn (ops : Array Oper) : List Stage → Cl ActF
  | [] => .mk fun _ _ => none
  | (fl, none) :: _ => cIdx P X ops fl
  | (fl, some (c, again)) :: l => match cIdx P X ops fl, cIdx P X ops [c], cDrawn ops l, again.filter (needs ops) with
    | .mk f, .mk g, .mk h, [] => .mk fun call st => match f call st with
      | none => none
      | some st1 => match g call st1 with
        | none => none
        | some st2 => h call st2
    | .mk f, .mk g, .mk h, ag => .mk fun call st => match f call st with
      | none => none
      | some st1 => match g call st1 with
        | none => none
        | some st2 => match ag.all (aStill P ops st2) with
          | true => h call st2
          | false => none
theorem aText_one (ops : Array Oper) (call : CallF) (c : Nat) (st : AS) : aText P X call ops [c] st = aOne P X call ops st c := by
  simp only [aText]
  cases aOne P X call ops st c <;> rfl
theorem cDrawn_eq (ops : Array Oper) (call : CallF) : ∀ (l : List Stage) (st : AS), (cDrawn P X ops l).ap call st = aDrawn P X call ops l st
  | [], st => rfl
  | (fl, none) :: _, st => cIdx_eq P X ops call fl st
  | (fl, some (c, again)) :: l, st => by
    have h1 := cIdx_eq P X ops call fl
    have h2 := cIdx_eq P X ops call [c]
    have h3 := cDrawn_eq ops call l
    have h4 := fun st2 => needs_all P ops st2 again
    simp only [cDrawn, aDrawn]
    cases hf : cIdx P X ops fl with
    | mk f =>
      cases hg : cIdx P X ops [c] with
      | mk g =>
        cases hh : cDrawn P X ops l with
        | mk h =>
          rw [hf] at h1
          rw [hg] at h2
          rw [hh] at h3
          simp only [Cl.ap] at h1 h2 h3 ⊢
          cases hag : again.filter (needs ops) with
          | nil =>
            rw [hag] at h4
            simp only [h1]
            cases aText P X call ops fl st with
            | none => rfl
            | some st1 =>
              simp only [h2, aText_one]
              cases aOne P X call ops st1 c with
              | none => rfl
              | some st2 =>
                simp only
                rw [← h4 st2]
                simp only [List.all_nil, if_true]
                exact h3 st2
          | cons x xs =>
            rw [hag] at h4
            simp only [h1]
            cases aText P X call ops fl st with
            | none => rfl
            | some st1 =>
              simp only [h2, aText_one]
              cases aOne P X call ops st1 c with
              | none => rfl
              | some st2 =>
                simp only
                rw [← h4 st2]
                cases (x :: xs).all (aStill P ops st2) with
                | true => simp only [if_true]; exact h3 st2
                | false => rfl

abbrev CodeF := CallF → Nat → AS → Option (Ex × AS)
def cLoop (f : AS → Option (Ex × AS)) : Nat → AS → Option (Ex × AS)
  | 0, _ => none
  | n + 1, st => match f st with
    | some (.normal, st') => cLoop f n st'
    | r => r
noncomputable def cCode : Code → Cl CodeF
  | .skip => .mk fun _ _ st => some (.normal, st)
  | .label _ => .mk fun _ _ st => some (.normal, st)
  | .ret => .mk fun _ _ st => some (.ret, st)
  | .exit id => .mk fun _ _ st => some (.exit id, st)
  | .seq a b => match cCode a, cCode b with
    | .mk f, .mk g => .mk fun call n st => match f call n st with
      | some (.normal, st') => g call n st'
      | r => r
  | .cond c a b => match cRho P.globals.size c, cCode a, cCode b with
    | .mk r, .mk f, .mk g => .mk fun call n st => match r st.t with
      | some (.bool true) => f call n st
      | some (.bool false) => g call n st
      | _ => none
  | .block id b => match cCode b with
    | .mk f => .mk fun call n st => match f call n st with
      | some (.exit j, st') => match Nat.beq j id with
        | true => some (.normal, st')
        | false => some (.exit j, st')
      | r => r
  | .loop b => match cCode b with
    | .mk f => .mk fun call n st => cLoop (f call n) n st
  | .scope b => cCode b
  | .region _ ops false => match cIdx P X ops (List.range ops.size) with
    | .mk f => .mk fun call _ st => match f call st with
      | some st' => some (.normal, st')
      | none => none
  | .region _ ops true => match stagesOf P ops with
    | some sg => match cDrawn P X ops sg with
      | .mk f => .mk fun call _ st => match f call st with
        | some st' => some (.normal, st')
        | none => none
    | none => .mk fun _ _ _ => none
  | _ => .mk fun _ _ _ => none

abbrev BodyF := CallF → Nat → List AV → AH → Option (Nat × List AV) → Option (AV × AH × Option (Nat × List AV))
noncomputable def cBody (f : FuncId) : Cl BodyF :=
  match P.funcs[f]? with
  | none => .mk fun _ _ _ _ _ => none
  | some fn => match fn.body with
    | none => .mk fun _ _ _ _ _ => none
    | some c => match cCode P X c with
      | .mk g => .mk fun call n args h s => match g call n { t := T.ofList args, n := args.length + (fn.ntmps - args.length), h, s } with
        | some (.exit _, _) => none
        | some (_, st) => (aResults P fn st).map fun v => (v, st.h, st.s)
        | none => none
noncomputable def crun : Nat → CallF
  | 0 => fun _ _ _ _ => none
  | k + 1 => fun f args h s => match X.call f args h s with
    | some (v, h') => some (v, h', s)
    | none => match cBody P X f with
      | .mk g => g (crun k) k args h s

variable {P X}
variable {Post : Value → World → Prop} {call : CallF}

theorem cCode_sound (hm : P.follows .mixedOrders = true) (hX : OrcS P Post X) (hC : CallS P Post call) : ∀ (c : Code) (n : Nat) (st : AS) (e : Ex) (st' : AS), (cCode P X c).ap call n st = some (e, st') → SndC P Post c st e st'
  | .skip, n, st, e, st', h => by
    simp only [cCode, Cl.ap, Option.some.injEq, Prod.mk.injEq] at h; obtain ⟨rfl, rfl⟩ := h
    exact fun B w₀ K env a S w b kk cs hk hT hH hn => .ctl rfl (fun w₁ => stepG_skip) (hn env a S w (Env.le_refl _) hT hH)
  | .label l, n, st, e, st', h => by
    simp only [cCode, Cl.ap, Option.some.injEq, Prod.mk.injEq] at h; obtain ⟨rfl, rfl⟩ := h
    exact fun B w₀ K env a S w b kk cs hk hT hH hn => .ctl rfl (fun w₁ => stepG_label) (hn env a S w (Env.le_refl _) hT hH)
  | .ret, n, st, e, st', h => by
    simp only [cCode, Cl.ap, Option.some.injEq, Prod.mk.injEq] at h; obtain ⟨rfl, rfl⟩ := h
    exact fun B w₀ K env a S w b kk cs hk hT hH hn => .ctl rfl (fun w₁ => stepG_ret') (hn env a S w (Env.le_refl _) hT hH _)
  | .exit id, n, st, e, st', h => by
    simp only [cCode, Cl.ap, Option.some.injEq, Prod.mk.injEq] at h; obtain ⟨rfl, rfl⟩ := h
    intro B w₀ K env a S w b kk cs hk hT hH hn
    obtain ⟨k', h1, h2⟩ := hn env a S w (Env.le_refl _) hT hH
    exact .ctl rfl (fun w₁ => stepG_exit h1) h2
  | .seq x y, n, st, e, st', h => by
    have ix := cCode_sound hm hX hC x n
    have iy := cCode_sound hm hX hC y n
    simp only [cCode] at h
    cases hf : cCode P X x with
    | mk f =>
      cases hg : cCode P X y with
      | mk g =>
        rw [hf] at ix h
        rw [hg] at iy h
        simp only [Cl.ap] at ix iy h
        intro B w₀ K env a S w b kk cs hk hT hH hn
        refine .ctl rfl (fun w₁ => stepG_seq) ?_
        split at h
        · rename_i st1 hx
          refine ix st _ st1 hx B w₀ K env a S w b (.code y :: kk) cs hk hT hH fun env1 a1 S1 w1 hle1 hT1 hH1 => ?_
          exact iy st1 _ st' h B w₀ K env1 a1 S1 w1 b kk cs hk hT1 hH1 fun env2 a2 S2 w2 hle2 hT2 hH2 => hn env2 a2 S2 w2 (Env.le_trans hle1 hle2) hT2 hH2
        · rename_i hne
          refine ix st _ st' h B w₀ K env a S w b (.code y :: kk) cs hk hT hH fun env1 a1 S1 w1 hle1 hT1 hH1 => ?_
          exact (hn env1 a1 S1 w1 hle1 hT1 hH1).skip (fun id he => by cases he) (fun he => by subst he; exact hne _ h)
  | .cond c x y, n, st, e, st', h => by
    have ix := cCode_sound hm hX hC x n
    have iy := cCode_sound hm hX hC y n
    simp only [cCode] at h
    cases hr : cRho P.globals.size c with
    | mk r =>
      cases hf : cCode P X x with
      | mk f =>
        cases hg : cCode P X y with
        | mk g =>
          rw [hf] at ix h
          rw [hg] at iy h
          rw [hr] at h
          simp only [Cl.ap, rho_mk hr] at ix iy h
          intro B w₀ K env a S w b kk cs hk hT hH hn
          have hev : ∀ v, aRho P.globals.size st.t c = some v → VR env v (a.eval c) := fun v hv => by
            refine hT.evr hH c v ?_
            cases c with
            | tmp t => simp only [restr]; rw [if_neg (show ¬ noD t from fun h => h)]; exact hv
            | _ => exact hv
          split at h
          · rename_i hc
            have := (hev _ hc).inj_bool
            refine .ctl rfl (fun w₁ => stepG_cond this) ?_
            exact ix st _ st' h B w₀ K env a S w b kk cs hk hT hH hn
          · rename_i hc
            have := (hev _ hc).inj_bool
            refine .ctl rfl (fun w₁ => stepG_cond this) ?_
            exact iy st _ st' h B w₀ K env a S w b kk cs hk hT hH hn
          · cases h
  | .block id x, n, st, e, st', h => by
    have ix := cCode_sound hm hX hC x n
    simp only [cCode] at h
    cases hf : cCode P X x with
    | mk f =>
      rw [hf] at ix h
      simp only [Cl.ap] at ix h
      intro B w₀ K env a S w b kk cs hk hT hH hn
      refine .ctl rfl (fun w₁ => stepG_block) ?_
      split at h
      · rename_i j st1 hx
        refine ix st _ st1 hx B w₀ K env a S w b (.inBlock id :: kk) cs hk hT hH fun env1 a1 S1 w1 hle1 hT1 hH1 => ?_
        split at h
        · rename_i e1
          have e1 : j = id := Nat.eq_of_beq_eq_true e1
          subst e1
          simp only [Option.some.injEq, Prod.mk.injEq] at h
          obtain ⟨rfl, rfl⟩ := h
          exact ⟨kk, by simp [exitTo], hn env1 a1 S1 w1 hle1 hT1 hH1⟩
        · rename_i e1
          simp only [Option.some.injEq, Prod.mk.injEq] at h
          obtain ⟨rfl, rfl⟩ := h
          obtain ⟨k', h2, h3⟩ := hn env1 a1 S1 w1 hle1 hT1 hH1
          refine ⟨k', ?_, h3⟩
          have : (id == j) = false := by
            have := Nat.ne_of_beq_eq_false e1
            simp; exact fun e => this e.symm
          simp [exitTo, this, h2]
      · rename_i hne
        refine ix st _ st' h B w₀ K env a S w b (.inBlock id :: kk) cs hk hT hH fun env1 a1 S1 w1 hle1 hT1 hH1 => ?_
        have hh := hn env1 a1 S1 w1 hle1 hT1 hH1
        cases e with
        | normal => exact .ctl rfl (fun w₁ => stepG_inBlock) hh
        | exit j => exact absurd h (hne j st')
        | ret => exact hh
  | .loop x, n, st, e, st', h => by
    have ix := cCode_sound hm hX hC x n
    simp only [cCode] at h
    cases hf : cCode P X x with
    | mk f =>
      rw [hf] at ix h
      simp only [Cl.ap] at ix h
      have hL : ∀ (m : Nat) (st : AS), cLoop (f call n) m st = some (e, st') → SndL P Post x st e st' := by
        intro m
        induction m with
        | zero => intro st h; simp [cLoop] at h
        | succ m ihm =>
          intro st h
          simp only [cLoop] at h
          intro B w₀ K env a S w b kk cs hk hT hH hn
          split at h
          · rename_i st1 hx
            refine ix st _ st1 hx B w₀ K env a S w b (.inLoop x :: kk) cs hk hT hH fun env1 a1 S1 w1 hle1 hT1 hH1 => ?_
            refine .ctl rfl (fun w₁ => stepG_inLoop) ?_
            exact ihm st1 h B w₀ K env1 a1 S1 w1 b kk cs hk hT1 hH1 fun env2 a2 S2 w2 hle2 hT2 hH2 => hn env2 a2 S2 w2 (Env.le_trans hle1 hle2) hT2 hH2
          · rename_i hne
            refine ix st _ st' h B w₀ K env a S w b (.inLoop x :: kk) cs hk hT hH fun env1 a1 S1 w1 hle1 hT1 hH1 => ?_
            exact (hn env1 a1 S1 w1 hle1 hT1 hH1).skip (fun id he => by cases he) (fun he => by subst he; exact hne _ h)
      exact fun B w₀ K env a S w b kk cs hk hT hH hn => .ctl rfl (fun w₁ => stepG_loop) (hL n st h B w₀ K env a S w b kk cs hk hT hH hn)
  | .scope x, n, st, e, st', h => by
    have ix := cCode_sound hm hX hC x n
    simp only [cCode] at h
    intro B w₀ K env a S w b kk cs hk hT hH hn
    refine .ctl rfl (fun w₁ => stepG_scope) ?_
    refine ix st _ st' h B w₀ K env a S w b (.inScope x :: kk) cs hk hT hH fun env1 a1 S1 w1 hle1 hT1 hH1 => ?_
    have hh := hn env1 a1 S1 w1 hle1 hT1 hH1
    cases e with
    | normal => exact .ctl rfl (fun w₁ => stepG_inScope) hh
    | exit j => exact hh.skip (fun id he => by cases he) (by simp)
    | ret => exact hh
  | .region id ops false, n, st, e, st', h => by
    have hc := cIdx_eq P X ops call (List.range ops.size) st
    simp only [cCode] at h
    cases hf : cIdx P X ops (List.range ops.size) with
    | mk f =>
      rw [hf] at hc h
      simp only [Cl.ap] at hc h
      rw [hc] at h
      split at h
      · rename_i st1 ht
        cases h
        intro B w₀ K env a S w b kk cs hk hT hH hn
        refine .ctl rfl (fun w₁ => stepG_region) ?_
        have := text_sound hX hC ht B w₀ K env a S w b kk cs [] hk hT hH fun env1 a1 S1 w1 hle1 hT1 hH1 => ?_
        · simpa using this
        · exact .ctl rfl (fun w₁ => stepG_region_end) (hn env1 a1 S1 w1 hle1 hT1 hH1)
      · cases h
  | .region id ops true, n, st, e, st', h => by
    simp only [cCode] at h
    cases hsg : stagesOf P ops with
    | none => rw [hsg] at h; cases h
    | some sg =>
      rw [hsg] at h
      simp only at h
      have hc := cDrawn_eq P X ops call sg st
      cases hf : cDrawn P X ops sg with
      | mk f =>
        rw [hf] at hc h
        simp only [Cl.ap] at hc h
        rw [hc] at h
        split at h
        · rename_i st1 ht
          cases h
          exact drawn_sound hm hX hC hsg ht
        · cases h
  | .goto _, _, _, _, _, h => by cases h
  | .rangeFunc .., _, _, _, _, h => by cases h
  | .refuse _, _, _, _, _, h => by cases h

/-- THE CLOSURES' CALLS ARE BORNE OUT. -/
theorem crun_sound (hm : P.follows .mixedOrders = true) (hX : OrcS P Post X) (k : Nat) : CallS P Post (crun P X k) := by
  induction k with
  | zero =>
    intro f args h s v h' s' _ hrun
    cases hrun
  | succ k ih =>
    intro f args h s v h' s' hcal hrun
    refine aFunc_sound hX (d := fun c st => (cCode P X c).ap (crun P X k) k st) (fun c st e st' hd => cCode_sound hm hX ih c k st e st' hd) hcal ?_
    unfold aFunc
    simp only [crun] at hrun
    split at hrun
    · rename_i v2 h2 hx
      rw [hx]; exact hrun
    · rename_i hx
      rw [hx]
      simp only
      unfold cBody at hrun
      cases hf : P.funcs[f]? with
      | none => rw [hf] at hrun; cases hrun
      | some fn =>
        rw [hf] at hrun
        simp only at hrun ⊢
        cases hb : fn.body with
        | none => rw [hb] at hrun; cases hrun
        | some c =>
          rw [hb] at hrun
          simp only at hrun ⊢
          cases hc : cCode P X c with
          | mk g =>
            rw [hc] at hrun
            exact hrun
end
end
end Go.Cx

/-
  THE FRAME RULE: a call that was reckoned over a heap of its own is one of any heap.
-/
namespace Go.Cx
noncomputable section
open Go Go.Conc

/-! ### renaming -/
mutual
def AV.ren (f : Nat → Option Nat) : AV → Option AV
  | .int k n => some (.int k n)
  | .bool b => some (.bool b)
  | .str l => some (.str l)
  | .ptr none => some (.ptr none)
  | .ptr (some (b, o)) => (f b).map fun b => .ptr (some (b, o))
  | .slice none 0 0 op => some (.slice none 0 0 op)
  | .slice none _ _ _ => none
  | .slice (some (b, o)) l c op => (f b).map fun b => .slice (some (b, o)) l c op
  | .map none => some (.map none)
  | .map (some b) => (f b).map fun b => .map (some b)
  | .chan none => some (.chan none)
  | .chan (some b) => (f b).map fun b => .chan (some b)
  | .func g x y => match AV.rens f x, AV.rens f y with
    | some x, some y => some (.func g x y)
    | _, _ => none
  | .nilFunc => some .nilFunc
  | .iface t v => (AV.ren f v).map (.iface t)
  | .nilIface => some .nilIface
  | .agg l => (AV.rens f l).map .agg
  | .tuple l => (AV.rens f l).map .tuple
  | .raw a => some (.raw a)
def AV.rens (f : Nat → Option Nat) : List AV → Option (List AV)
  | [] => some []
  | v :: l => match AV.ren f v, AV.rens f l with
    | some v, some l => some (v :: l)
    | _, _ => none
end

theorem ren_scalar {f : Nat → Option Nat} {v v' : AV} (h : v.ren f = some v') : v'.scalar = v.scalar := by
  unfold AV.ren at h
  split at h <;> first
    | (cases h; done)
    | (simp only [Option.some.injEq] at h; subst h; rfl)
    | (obtain ⟨_, _, rfl⟩ := Option.map_eq_some_iff.1 h; rfl)
    | (split at h
       · simp only [Option.some.injEq] at h; subst h; rfl
       · cases h)
theorem rens_all {f : Nat → Option Nat} : ∀ {l l' : List AV}, AV.rens f l = some l' → l'.all AV.scalar = l.all AV.scalar
  | [], _, h => by simp only [AV.rens, Option.some.injEq] at h; subst h; rfl
  | v :: l, _, h => by
    simp only [AV.rens] at h
    split at h
    · rename_i v' l' e1 e2
      simp only [Option.some.injEq] at h; subst h
      simp only [List.all_cons, ren_scalar e1, rens_all e2]
    · cases h

/-- The new names stand where the old ones stood. -/
def RenOk (f : Nat → Option Nat) (env env' : Env) : Prop := ∀ b b', f b = some b' → env'.blk b' = env.blk b ∧ ∀ c sh, env.blk b = .at c sh → env'.ex b' = env.ex b

mutual
theorem VR.ren {f : Nat → Option Nat} {env env' : Env} (hf : RenOk f env env') : ∀ {v v' : AV} {V : Value}, VR env v V → v.ren f = some v' → VR env' v' V
  | _, _, _, .int k n, h => by simp only [AV.ren, Option.some.injEq] at h; subst h; exact .int k n
  | _, _, _, .bool b, h => by simp only [AV.ren, Option.some.injEq] at h; subst h; exact .bool b
  | _, _, _, .str l, h => by simp only [AV.ren, Option.some.injEq] at h; subst h; exact .str l
  | _, _, _, .ptrN, h => by simp only [AV.ren, Option.some.injEq] at h; subst h; exact .ptrN
  | _, _, _, .ptr hb, h => by
    obtain ⟨b', h1, rfl⟩ := Option.map_eq_some_iff.1 h
    exact .ptr ((hf _ _ h1).1.trans hb)
  | _, _, _, .ptrD hb a, h => by
    obtain ⟨b', h1, rfl⟩ := Option.map_eq_some_iff.1 h
    exact .ptrD ((hf _ _ h1).1.trans hb) a
  | _, _, _, .slN op, h => by simp only [AV.ren, Option.some.injEq] at h; subst h; exact .slN op
  | _, _, _, .sl hb he ha hl, h => by
    obtain ⟨b', h1, rfl⟩ := Option.map_eq_some_iff.1 h
    exact .sl ((hf _ _ h1).1.trans hb) (by rw [(hf _ _ h1).2 _ _ hb]; exact he) ha hl
  | _, _, _, .slD hb a c hl hc, h => by
    obtain ⟨b', h1, rfl⟩ := Option.map_eq_some_iff.1 h
    exact .slD ((hf _ _ h1).1.trans hb) a c hl hc
  | _, _, _, .mapN, h => by simp only [AV.ren, Option.some.injEq] at h; subst h; exact .mapN
  | _, _, _, .map hb, h => by
    obtain ⟨b', h1, rfl⟩ := Option.map_eq_some_iff.1 h
    exact .map ((hf _ _ h1).1.trans hb)
  | _, _, _, .mapD hb c, h => by
    obtain ⟨b', h1, rfl⟩ := Option.map_eq_some_iff.1 h
    exact .mapD ((hf _ _ h1).1.trans hb) c
  | _, _, _, .chanN, h => by simp only [AV.ren, Option.some.injEq] at h; subst h; exact .chanN
  | _, _, _, .chan hb, h => by
    obtain ⟨b', h1, rfl⟩ := Option.map_eq_some_iff.1 h
    exact .chan ((hf _ _ h1).1.trans hb)
  | _, _, _, .chanD hb c, h => by
    obtain ⟨b', h1, rfl⟩ := Option.map_eq_some_iff.1 h
    exact .chanD ((hf _ _ h1).1.trans hb) c
  | _, _, _, .func hx hy, h => by
    simp only [AV.ren] at h
    split at h
    · rename_i x y e1 e2
      simp only [Option.some.injEq] at h; subst h
      exact .func (hx.ren hf e1) (hy.ren hf e2)
    · cases h
  | _, _, _, .nilFunc, h => by simp only [AV.ren, Option.some.injEq] at h; subst h; exact .nilFunc
  | _, _, _, .iface hv, h => by
    obtain ⟨v', h1, rfl⟩ := Option.map_eq_some_iff.1 h
    exact .iface (hv.ren hf h1)
  | _, _, _, .nilIface, h => by simp only [AV.ren, Option.some.injEq] at h; subst h; exact .nilIface
  | _, _, _, .agg hl hs, h => by
    obtain ⟨l', h1, rfl⟩ := Option.map_eq_some_iff.1 h
    exact .agg (hl.ren hf h1) (by rw [rens_all h1]; exact hs)
  | _, _, _, .tuple hl, h => by
    obtain ⟨l', h1, rfl⟩ := Option.map_eq_some_iff.1 h
    exact .tuple (hl.ren hf h1)
  | _, _, _, .raw a, h => by simp only [AV.ren, Option.some.injEq] at h; subst h; exact .raw a
theorem VRs.ren {f : Nat → Option Nat} {env env' : Env} (hf : RenOk f env env') : ∀ {l l' : List AV} {L : List Value}, VRs env l L → AV.rens f l = some l' → VRs env' l' L
  | _, _, _, .nil, h => by simp only [AV.rens, Option.some.injEq] at h; subst h; exact .nil
  | _, _, _, .cons hv hl, h => by
    simp only [AV.rens] at h
    split at h
    · rename_i v l e1 e2
      simp only [Option.some.injEq] at h; subst h
      exact .cons (hv.ren hf e1) (hl.ren hf e2)
    · cases h
end

def renEs (f : Nat → Option Nat) : List (AV × AV × Nat) → Option (List (AV × AV × Nat))
  | [] => some []
  | (k, v, bn) :: l => match AV.ren f k, AV.ren f v, renEs f l with
    | some k, some v, some l => some ((k, v, bn) :: l)
    | _, _, _ => none
def ABlk.ren (f : Nat → Option Nat) : ABlk → Option ABlk
  | .cells e n c op false => match c.gets 0 n with
    | some l => (AV.rens f l).map fun l => .cells e n (T.ofList l) op false
    | none => none
  | .map es clock => (renEs f es).map fun es => .map es clock
  | _ => none

theorem rens_get {f : Nat → Option Nat} : ∀ {l l' : List AV} (i : Nat), AV.rens f l = some l' → (∀ v, l[i]? = some v → ∃ v', l'[i]? = some v' ∧ v.ren f = some v') ∧ l'.length = l.length
  | [], _, i, h => by simp only [AV.rens, Option.some.injEq] at h; subst h; exact ⟨fun v hv => by simp at hv, rfl⟩
  | v :: l, _, i, h => by
    simp only [AV.rens] at h
    split at h
    · rename_i v' l' e1 e2
      simp only [Option.some.injEq] at h; subst h
      refine ⟨fun u hu => ?_, by simp [(rens_get 0 e2).2]⟩
      cases i with
      | zero => simp at hu; subst hu; exact ⟨v', rfl, e1⟩
      | succ i => simpa using (rens_get i e2).1 u (by simpa using hu)
    · cases h
theorem renEs_get {f : Nat → Option Nat} : ∀ {l l' : List (AV × AV × Nat)}, renEs f l = some l' → l'.length = l.length ∧ ∀ (i : Nat) (k' v' : AV) (bn : Nat), l'[i]? = some (k', v', bn) → ∃ k v, l[i]? = some (k, v, bn) ∧ k.ren f = some k' ∧ v.ren f = some v'
  | [], _, h => by simp only [renEs, Option.some.injEq] at h; subst h; exact ⟨rfl, fun i k v bn hi => by simp at hi⟩
  | (k, v, bn) :: l, _, h => by
    simp only [renEs] at h
    split at h
    · rename_i k1 v1 l1 e1 e2 e3
      simp only [Option.some.injEq] at h; subst h
      obtain ⟨g1, g2⟩ := renEs_get e3
      refine ⟨by simp [g1], fun i k' v' bn' hi => ?_⟩
      cases i with
      | zero =>
        simp only [List.getElem?_cons_zero, Option.some.injEq, Prod.mk.injEq] at hi
        obtain ⟨rfl, rfl, rfl⟩ := hi
        exact ⟨k, v, rfl, e1, e2⟩
      | succ i => simpa using g2 i k' v' bn' (by simpa using hi)
    · cases h

theorem BR.ren {P : Program} {B B' : Nat} {f : Nat → Option Nat} {env env' : Env} {w : World} {b b' c sh : Nat} {blk blk' : ABlk} (hf : RenOk f env env') (hB : B' ≤ B) (hb : f b = some b') (hat : env.blk b = .at c sh) (hbr : BR P B env w b c sh blk) (h : blk.ren f = some blk') : BR P B' env' w b' c sh blk' := by
  unfold ABlk.ren at h
  split at h
  · rename_i e n cs op
    split at h
    · rename_i l hl
      obtain ⟨l', hl', rfl⟩ := Option.map_eq_some_iff.1 h
      obtain ⟨arr, e', fr, b1, b2, b3, ⟨i, hi, b4⟩, b5⟩ := hbr
      obtain ⟨c1, c2, c3⟩ := b3 rfl
      refine ⟨arr, e', fr, b1, fun j hj => ?_, fun _ => ⟨Nat.le_trans hB c1, c2, c3⟩, ⟨i, hi, by rw [(hf _ _ hb).2 _ _ hat]; exact b4⟩, by rw [(hf _ _ hb).2 _ _ hat]; exact b5⟩
      obtain ⟨v, V, g1, g2, g3, g4⟩ := b2 j hj
      have e1 := (T.gets_some hl).2 j hj
      rw [Nat.zero_add, g1] at e1
      obtain ⟨v', q1, q2⟩ := (rens_get j hl').1 v e1.symm
      exact ⟨v', V, by rw [T.get_ofList]; exact q1, by rw [ren_scalar q2]; exact g2, g3, g4.ren hf q2⟩
    · cases h
  · rename_i es clock
    obtain ⟨es', he, rfl⟩ := Option.map_eq_some_iff.1 h
    obtain ⟨c1, c2, ES, c3, c4, c5⟩ := hbr
    obtain ⟨g1, g2⟩ := renEs_get he
    refine ⟨Nat.le_trans hB c1, c2, ES, c3, by rw [g1]; exact c4, fun i k v bn hi => ?_⟩
    obtain ⟨k0, v0, h1, h2, h3⟩ := g2 i k v bn hi
    obtain ⟨E, q1, q2, q3, q4⟩ := c5 i k0 v0 bn h1
    exact ⟨E, q1, q2.ren hf h2, q3.ren hf h3, q4⟩
  · cases h
end
end Go.Cx

/-
  THE FRAME RULE, second part: what a call over a heap of its own leaves is taken into the caller's heap.
-/
namespace Go.Cx
noncomputable section
open Go Go.Conc

/-- The caller's name of a block: of those that it lent by the row m, and of the new ones. -/
def nameOf (m : List Nat) (n : Nat) (h1 : AH) (ids : List Nat) (b : Nat) : Option Nat :=
  match m[b]? with
  | some c => match h1.t.get b with
    | some (.cells _ _ _ _ true) => some c
    | _ => none
  | none => (ids.findIdx? (· == b)).map (n + ·)
def blksOf (f : Nat → Option Nat) (h1 : AH) : List Nat → Option (List ABlk)
  | [] => some []
  | b :: l => match h1.t.get b, blksOf f h1 l with
    | some blk, some m => (blk.ren f).map (· :: m)
    | _, _ => none
theorem blksOf_get {f : Nat → Option Nat} {h1 : AH} : ∀ {l : List Nat} {m : List ABlk}, blksOf f h1 l = some m → m.length = l.length ∧ ∀ (j b : Nat), l[j]? = some b → ∃ blk blk', h1.t.get b = some blk ∧ blk.ren f = some blk' ∧ m[j]? = some blk'
  | [], m, h => by simp only [blksOf, Option.some.injEq] at h; subst h; exact ⟨rfl, fun j b hb => by simp at hb⟩
  | x :: l, m, h => by
    simp only [blksOf] at h
    split at h
    · rename_i blk m' e1 e2
      obtain ⟨blk', e3, rfl⟩ := Option.map_eq_some_iff.1 h
      obtain ⟨g1, g2⟩ := blksOf_get e2
      refine ⟨by simp [g1], fun j b hb => ?_⟩
      cases j with
      | zero => simp at hb; subst hb; exact ⟨blk, blk', e1, e3, rfl⟩
      | succ j => simpa using g2 j b (by simpa using hb)
    · cases h

theorem nodup_inj {l : List Nat} (h : l.Nodup) {i j : Nat} {hi : i < l.length} {hj : j < l.length} (e : l[i] = l[j]) : i = j := by
  have hp := List.pairwise_iff_getElem.1 h
  rcases Nat.lt_trichotomy i j with h1 | h1 | h1
  · exact absurd e (hp i j hi hj h1)
  · exact h1
  · exact absurd e.symm (hp j i hj hi h1)
section
variable {P : Program} {B : Nat} {w₀ : World} {K K1 : List Nat} {env env1 : Env} {h h1 : AH} {w w1 : World}

def Env.join (env env1 : Env) (n : Nat) (ids : List Nat) : Env :=
  { blk := fun k => if k < n then env.blk k else match ids[k - n]? with | some b => env1.blk b | none => .hole
    ex := fun k => if k < n then env.ex k else match ids[k - n]? with | some b => env1.ex b | none => 0 }

theorem ren_not_dead {f : Nat → Option Nat} {blk blk' : ABlk} (h : blk.ren f = some blk') : blk ≠ .dead ∧ blk' ≠ .dead ∧ (∀ st, blk' ≠ .chan st) ∧ ∀ {P : Program} {B : Nat} {env : Env} {w : World} {b c sh : Nat}, BR P B env w b c sh blk → B ≤ c := by
  unfold ABlk.ren at h
  split at h
  · split at h
    · obtain ⟨l', hl', rfl⟩ := Option.map_eq_some_iff.1 h
      refine ⟨by simp, by simp, by simp, fun hb => ?_⟩
      obtain ⟨arr, e', fr, b1, b2, b3, _⟩ := hb
      exact (b3 rfl).1
    · cases h
  · obtain ⟨l', hl', rfl⟩ := Option.map_eq_some_iff.1 h
    exact ⟨by simp, by simp, by simp, fun hb => hb.1⟩
  · cases h

theorem import_sound {m : List Nat} {ids : List Nat} {blks : List ABlk} (hN : ∀ c ∈ m, c < h.n) (hs : HS P B w₀ K env h none none w) (hs1 : HS P w.heap.size w K1 env1 h1 none none w1) (hB1 : B ≤ w.heap.size) (hnod : ids.Nodup) (hids : ∀ b ∈ ids, m.length ≤ b)
    (he : ∀ b c, m[b]? = some c → (∃ e n cs op, h1.t.get b = some (.cells e n cs op true)) → env1.blk b = env.blk c ∧ ∀ x sh, env.blk c = .at x sh → env1.ex b = env.ex c) (hb : blksOf (nameOf m h.n h1 ids) h1 ids = some blks) :
    HS P B w₀ K (env.join env1 h.n ids) { n := h.n + ids.length, t := h.t.puts h.n blks } none none w1 ∧ env.le (env.join env1 h.n ids) ∧ RenOk (nameOf m h.n h1 ids) env1 (env.join env1 h.n ids) := by
  obtain ⟨hlen, hget⟩ := blksOf_get hb
  have hren : RenOk (nameOf m h.n h1 ids) env1 (env.join env1 h.n ids) := by
    intro b b' hbb
    unfold nameOf at hbb
    split at hbb
    · rename_i c hbN
      split at hbb
      · rename_i e n cs op hg
        simp only [Option.some.injEq] at hbb
        subst hbb
        obtain ⟨q1, q2⟩ := he b c hbN ⟨e, n, cs, op, hg⟩
        simp only [Env.join, if_pos (hN c (List.mem_of_getElem? hbN))]
        exact ⟨q1.symm, fun x sh hx => (q2 x sh (q1.symm.trans hx)).symm⟩
      · cases hbb
    · obtain ⟨j, hj, rfl⟩ := Option.map_eq_some_iff.1 hbb
      rw [List.findIdx?_eq_some_iff_getElem] at hj
      obtain ⟨hjl, hjb, _⟩ := hj
      have : ids[j] = b := by simpa using hjb
      have e1 : ids[h.n + j - h.n]? = some b := by rw [Nat.add_sub_cancel_left, List.getElem?_eq_getElem hjl, this]
      simp only [Env.join, if_neg (show ¬ h.n + j < h.n by omega), e1]
      exact ⟨trivial, fun _ _ _ => trivial⟩
  have hle : env.le (env.join env1 h.n ids) := by
    refine ⟨fun k c sh hk => .inl ?_, fun k hk => ?_⟩
    · have hkn : k < h.n := by
        rcases Nat.lt_or_ge k h.n with h2 | h2
        · exact h2
        · rw [hs.unal k (hs.next k h2)] at hk; cases hk
      simp only [Env.join, if_pos hkn]
      exact ⟨hk, trivial⟩
    · have hkn : k < h.n := by
        rcases Nat.lt_or_ge k h.n with h2 | h2
        · exact h2
        · rw [hs.unal k (hs.next k h2)] at hk; cases hk
      simp only [Env.join, if_pos hkn]
      exact hk
  have old : ∀ k c sh, env.blk k = .at c sh → k < h.n ∧ c < w.heap.size := fun k c sh hk => by
    cases hg : h.t.get k with
    | none => rw [hs.unal k hg] at hk; cases hk
    | some bk =>
      refine ⟨?_, (hs.rel k bk c sh hg hk).lt⟩
      rcases Nat.lt_or_ge k h.n with h2 | h2
      · exact h2
      · rw [hs.next k h2] at hg; cases hg
  have lo : ∀ k, k < h.n → (env.join env1 h.n ids).blk k = env.blk k := fun k hk => by simp only [Env.join, if_pos hk]
  have hi : ∀ k, ¬ k < h.n → (env.join env1 h.n ids).blk k = match ids[k - h.n]? with | some b => env1.blk b | none => .hole := fun k hk => by simp only [Env.join, if_neg hk]
  have glo : ∀ k, k < h.n → (h.t.puts h.n blks).get k = h.t.get k := fun k hk => by rw [T.get_puts, if_neg (by omega)]
  have newAt : ∀ x ∈ ids, ∀ c sh, env1.blk x = .at c sh → w.heap.size ≤ c := fun x hx c sh hk => by
    obtain ⟨j, hj, rfl⟩ := List.getElem_of_mem hx
    obtain ⟨blk, blk', g1, g2, g3⟩ := hget j _ (List.getElem?_eq_getElem hj)
    exact (ren_not_dead g2).2.2.2 (hs1.rel _ _ _ _ g1 hk)
  have nameAt : ∀ (j : Nat) (hj : j < ids.length), nameOf m h.n h1 ids ids[j] = some (h.n + j) := fun j hj => by
    unfold nameOf
    rw [List.getElem?_eq_none (hids _ (List.getElem_mem hj))]
    show (ids.findIdx? (· == ids[j])).map (h.n + ·) = some (h.n + j)
    have : ids.findIdx? (· == ids[j]) = some j := by
      rw [List.findIdx?_eq_some_iff_getElem]
      refine ⟨hj, by simp, fun i hij => ?_⟩
      simp only [beq_iff_eq]
      intro e
      have := nodup_inj hnod e
      omega
    rw [this]; rfl
  refine ⟨⟨hs1.tape.trans hs.tape, hs1.os.trans hs.os, hs1.output.trans hs.output, Nat.le_trans hs.size hs1.size, fun c hc => (hs1.base c (Nat.lt_of_lt_of_le hc hB1)).trans (hs.base c hc), hs.bound, hs.gb, fun b b' c sh sh' hBc hk hk' => ?_, fun b hbn => ?_, fun b hbn => ?_, fun b blk c sh hg hk => ?_, fun b hk => ?_, fun g hg => ?_, trivial, fun b hk => ?_, fun b hk => ?_⟩, hle, hren⟩
  · by_cases e : b < h.n <;> by_cases e' : b' < h.n
    · rw [lo b e] at hk; rw [lo b' e'] at hk'
      exact hs.inj _ _ _ _ _ hBc hk hk'
    · rw [lo b e] at hk; rw [hi b' e'] at hk'
      split at hk'
      · rename_i x hx
        have := newAt x (List.mem_of_getElem? hx) _ _ hk'
        have := (old _ _ _ hk).2
        omega
      · cases hk'
    · rw [hi b e] at hk; rw [lo b' e'] at hk'
      split at hk
      · rename_i x hx
        have := newAt x (List.mem_of_getElem? hx) _ _ hk
        have := (old _ _ _ hk').2
        omega
      · cases hk
    · rw [hi b e] at hk; rw [hi b' e'] at hk'
      split at hk
      · rename_i x hx
        split at hk'
        · rename_i x' hx'
          have hxx := hs1.inj _ _ _ _ _ (newAt x (List.mem_of_getElem? hx) _ _ hk) hk hk'
          subst hxx
          obtain ⟨q1, q2⟩ := List.getElem?_eq_some_iff.1 hx
          obtain ⟨q3, q4⟩ := List.getElem?_eq_some_iff.1 hx'
          have := nodup_inj hnod (q2.trans q4.symm)
          omega
        · cases hk'
      · cases hk
  · simp only [T.get_puts] at hbn
    split at hbn
    · rename_i hr
      have : blks[b - h.n]? = some (blks[b - h.n]'(by omega)) := List.getElem?_eq_getElem _
      rw [this] at hbn; cases hbn
    · rename_i hr
      by_cases e : b < h.n
      · rw [lo b e]; exact hs.unal b hbn
      · rw [hi b e, List.getElem?_eq_none (by omega)]
  · simp only [T.get_puts] at hbn ⊢
    rw [if_neg (by omega)]
    exact hs.next b (by omega)
  · by_cases e : b < h.n
    · rw [lo b e] at hk
      simp only [glo b e] at hg
      have hc := (old _ _ _ hk).2
      exact ((hs.rel b blk c sh hg hk).mono hle (by simp only [Env.join, if_pos e])).world (hs1.base c hc)
    · rw [hi b e] at hk
      split at hk
      · rename_i x hx
        obtain ⟨blk0, blk', g1, g2, g3⟩ := hget _ _ hx
        obtain ⟨q1, q2⟩ := List.getElem?_eq_some_iff.1 hx
        have hr : h.n ≤ b ∧ b < h.n + blks.length := by omega
        simp only [T.get_puts, if_pos hr, g3, Option.some.injEq] at hg
        subst hg
        have hn := nameAt (b - h.n) q1
        rw [q2] at hn
        have e2 : h.n + (b - h.n) = b := by omega
        rw [e2] at hn
        exact (hs1.rel x blk0 c sh g1 hk).ren hren hB1 hn hk g2
      · cases hk
  · by_cases e : b < h.n
    · rw [lo b e] at hk
      simp only [glo b e]
      exact hs.dead b hk
    · rw [hi b e] at hk
      split at hk
      · rename_i x hx
        obtain ⟨blk0, blk', g1, g2, g3⟩ := hget _ _ hx
        have := hs1.dead x hk
        rw [this] at g1; cases g1
        exact absurd rfl (ren_not_dead g2).1
      · cases hk
  · have h2 := hs.glob g hg
    rw [lo g (old _ _ _ h2).1]
    exact h2
  · by_cases e : b < h.n
    · simp only [glo b e] at hk
      obtain ⟨vs, hv⟩ := hs.actv b hk
      cases hv
    · simp only [T.get_puts] at hk
      split at hk
      · rename_i hr
        have hj : b - h.n < ids.length := by omega
        obtain ⟨blk0, blk', g1, g2, g3⟩ := hget _ _ (List.getElem?_eq_getElem hj)
        rw [g3] at hk
        exact absurd (Option.some.inj hk) ((ren_not_dead g2).2.2.1 1)
      · rw [hs.next b (by omega)] at hk; cases hk
  · obtain ⟨q1, q2⟩ := hs.hol b hk
    exact ⟨(lo b q2).trans q1, Nat.lt_of_lt_of_le q2 (Nat.le_add_right _ _)⟩
end
end
end Go.Cx

/-
  A HEAP OF LENT BLOCKS: some of the caller's blocks, under numbers of their own, closed to writing.
-/
namespace Go.Cx
noncomputable section
open Go Go.Conc

/-- The number under which a block is lent. -/
def lentAs (m : List Nat) (b : Nat) : Option Nat := m.findIdx? (fun c => Nat.beq c b)
/-- A block of the caller's is as good as a lent one. -/
def lentBlk (m : List Nat) : ABlk → ABlk → Bool
  | .cells e n c op _, .cells e' n' c' op' true => Nat.beq e e' && op == op' && (Nat.beq n' 0 || Nat.beq n n' && (match c.gets 0 n, c'.gets 0 n with
    | some l, some l' => match AV.rens (lentAs m) l with
      | some l2 => eqvs l2 l'
      | none => false
    | _, _ => false))
  | _, _ => false
def lentAll (m : List Nat) (h lay : AH) : List Nat → Nat → Bool
  | [], _ => true
  | c :: l, k => (match h.t.get c, lay.t.get k with
    | some b, some b' => lentBlk m b b'
    | _, _ => false) && lentAll m h lay l (k + 1)

section
variable {P : Program} {B : Nat} {w₀ : World} {K : List Nat} {env : Env} {h lay : AH} {w : World} {m : List Nat}

theorem lentAll_get : ∀ {l : List Nat} {k : Nat}, lentAll m h lay l k = true → ∀ j c, l[j]? = some c → ∃ blk blk', h.t.get c = some blk ∧ lay.t.get (k + j) = some blk' ∧ lentBlk m blk blk' = true
  | [], _, _, j, c, hj => by simp at hj
  | x :: l, k, hl, j, c, hj => by
    simp only [lentAll, Bool.and_eq_true] at hl
    cases j with
    | zero =>
      simp at hj; subst hj
      have h1 := hl.1
      split at h1
      · rename_i b b' e1 e2
        exact ⟨b, b', e1, by simpa using e2, h1⟩
      · cases h1
    | succ j =>
      obtain ⟨b, b', e1, e2, e3⟩ := lentAll_get hl.2 j c (by simpa using hj)
      exact ⟨b, b', e1, by rw [← e2]; congr 1; omega, e3⟩

/-- The environment of the lent blocks. -/
def Env.lend (env : Env) (m : List Nat) : Env :=
  { blk := fun k => match m[k]? with | some c => env.blk c | none => .hole
    ex := fun k => match m[k]? with | some c => env.ex c | none => 0 }
theorem lent_ren : RenOk (lentAs m) env (env.lend m) := by
  intro b k hb
  unfold lentAs at hb
  rw [List.findIdx?_eq_some_iff_getElem] at hb
  obtain ⟨hk, h1, _⟩ := hb
  have : m[k] = b := Nat.eq_of_beq_eq_true h1
  have e : m[k]? = some b := by rw [List.getElem?_eq_getElem hk, this]
  simp only [Env.lend, e]
  exact ⟨trivial, fun _ _ _ => trivial⟩

theorem lent_br {B' b c sh k : Nat} {blk blk' : ABlk} (hok : lentBlk m blk blk' = true) (hk : m[k]? = some b) (hb : BR P B env w b c sh blk) : BR P B' (env.lend m) w k c sh blk' := by
  have hex : (env.lend m).ex k = env.ex b := by simp only [Env.lend, hk]
  unfold lentBlk at hok
  split at hok
  · rename_i e n cs op ro e' n' cs' op'
    simp only [Bool.and_eq_true, Bool.or_eq_true, beq_iff_eq] at hok
    obtain ⟨⟨he, h1⟩, hok⟩ := hok
    have he : e = e' := Nat.eq_of_beq_eq_true he
    subst he; subst h1
    obtain ⟨arr, e', fr, b1, b2, b3, ⟨i, hi, b4⟩, b5⟩ := hb
    rcases hok with h0 | ⟨h0, h2⟩
    · have h0 : n' = 0 := Nat.eq_of_beq_eq_true h0
      subst h0
      refine ⟨arr, e', fr, b1, fun j hj => absurd hj (Nat.not_lt_zero _), (fun hf => by cases hf), ⟨i, hi, by rw [hex]; omega⟩, by rw [hex]; exact b5⟩
    · have h0 : n = n' := Nat.eq_of_beq_eq_true h0
      subst h0
      split at h2
      · rename_i l l' hl hl'
        split at h2
        · rename_i l2 hl2
          have := eqvs_eq h2
          subst this
          refine ⟨arr, e', fr, b1, fun j hj => ?_, (fun hf => by cases hf), ⟨i, hi, by rw [hex]; exact b4⟩, by rw [hex]; exact b5⟩
          obtain ⟨v, V, g1, g2, g3, g4⟩ := b2 j hj
          have e1 := (T.gets_some hl).2 j hj
          rw [Nat.zero_add, g1] at e1
          obtain ⟨v', q1, q2⟩ := (rens_get j hl2).1 v e1.symm
          have e2 := (T.gets_some hl').2 j hj
          rw [Nat.zero_add, q1] at e2
          exact ⟨v', V, e2, by rw [ren_scalar q2]; exact g2, g3, g4.ren lent_ren q2⟩
        · cases h2
      · cases h2
  · cases hok

/-- The heap of the lent blocks alone. -/
theorem lent_heap (hs : HS P B w₀ K env h none none w) (_hm : ∀ c ∈ m, c < h.n) (hnod : m.Nodup) (hlen : m.length = lay.n) (hG : ∀ g, g < P.globals.size → m[g]? = some g) (hout : ∀ b, lay.n ≤ b → lay.t.get b = none) (hl : lentAll m h lay m 0 = true) :
    ∃ K', HS P w.heap.size w K' (env.lend m) lay none none w ∧ ∀ k c, m[k]? = some c → env.blk c = .hole → k ∈ K' := by
  have hB : B ≤ w.heap.size := by have := hs.size; have := hs.bound; omega
  have inM : ∀ {k : Nat}, k < m.length → m[k]? = some (m.getD k 0) := fun {k} hk => by rw [List.getD_eq_getElem?_getD, List.getElem?_eq_getElem hk]; rfl
  have lo : ∀ k c, m[k]? = some c → (env.lend m).blk k = env.blk c := fun k c hk => by simp only [Env.lend, hk]
  have hi : ∀ k, m[k]? = none → (env.lend m).blk k = .hole := fun k hk => by simp only [Env.lend, hk]
  have ltn : ∀ {k c : Nat}, m[k]? = some c → k < m.length := fun hk => (List.getElem?_eq_some_iff.1 hk).1
  have lay0 : ∀ {k c : Nat}, m[k]? = some c → ∃ blk blk', h.t.get c = some blk ∧ lay.t.get k = some blk' ∧ lentBlk m blk blk' = true := fun {k c} hk => by
    obtain ⟨b, b', e1, e2, e3⟩ := lentAll_get hl k c hk
    exact ⟨b, b', e1, by simpa using e2, e3⟩
  have notdead : ∀ {blk blk' : ABlk}, lentBlk m blk blk' = true → blk ≠ .dead ∧ blk' ≠ .dead ∧ ∀ st, blk' ≠ .chan st := fun {blk blk'} hb => by
    unfold lentBlk at hb
    split at hb
    · exact ⟨by simp, by simp, by simp⟩
    · cases hb
  classical
  refine ⟨(List.range m.length).filter fun k => decide ((env.lend m).blk k = .hole), ⟨rfl, rfl, rfl, Nat.le_refl _, fun _ _ => rfl, Nat.le_refl _, Nat.le_trans hs.gb hB, fun b b' c sh sh' hBc hk hk' => ?_, fun b hb => ?_, hout, fun b blk c sh hg hk => ?_, fun b hk => ?_, fun g hg => ?_, trivial, fun b hg => ?_, fun b hb => ?_⟩, fun k c hk hc => ?_⟩
  · cases e : m[b]? with
    | none => rw [hi b e] at hk; cases hk
    | some x =>
      cases e' : m[b']? with
      | none => rw [hi b' e'] at hk'; cases hk'
      | some x' =>
        rw [lo b x e] at hk
        rw [lo b' x' e'] at hk'
        have := hs.inj _ _ _ _ _ (Nat.le_trans hB hBc) hk hk'
        subst this
        obtain ⟨q1, q2⟩ := List.getElem?_eq_some_iff.1 e
        obtain ⟨q3, q4⟩ := List.getElem?_eq_some_iff.1 e'
        exact nodup_inj hnod (q2.trans q4.symm)
  · cases e : m[b]? with
    | none => exact hi b e
    | some x =>
      obtain ⟨_, _, _, h2, _⟩ := lay0 e
      rw [h2] at hb; cases hb
  · cases e : m[b]? with
    | none => rw [hi b e] at hk; cases hk
    | some x =>
      rw [lo b x e] at hk
      obtain ⟨blk0, blk', h1, h2, h3⟩ := lay0 e
      rw [h2] at hg; cases hg
      exact lent_br h3 e (hs.rel _ _ _ _ h1 hk)
  · cases e : m[b]? with
    | none => rw [hi b e] at hk; cases hk
    | some x =>
      rw [lo b x e] at hk
      obtain ⟨blk0, blk', h1, h2, h3⟩ := lay0 e
      have := hs.dead x hk
      rw [h1] at this; cases this
      exact absurd rfl (notdead h3).1
  · rw [lo g g (hG g hg)]; exact hs.glob g hg
  · exfalso
    cases e : m[b]? with
    | none =>
      rw [List.getElem?_eq_none_iff] at e
      rw [hout b (by omega)] at hg; cases hg
    | some x =>
      obtain ⟨blk0, blk', h1, h2, h3⟩ := lay0 e
      rw [h2] at hg; cases hg
      exact (notdead h3).2.2 1 rfl
  · simp only [List.mem_filter, List.mem_range, decide_eq_true_eq] at hb
    exact ⟨hb.2, by omega⟩
  · simp only [List.mem_filter, List.mem_range, decide_eq_true_eq]
    exact ⟨ltn hk, (lo k c hk).trans hc⟩
end
end
end Go.Cx

/-
  CONTRACTS: what a call does over a heap of lent blocks it does over any heap.
-/
namespace Go.Cx
noncomputable section
open Go Go.Conc
section
variable {P : Program} {Post : Value → World → Prop} {lay h h1 : AH} {m : List Nat}

/-- THE FRAME RULE. -/
theorem SndF.frame {f : FuncId} {args args' : List AV} {v1 v' : AV} {ids : List Nat} {blks : List ABlk} (hf : SndF P Post f args lay none v1 h1 none)
    (hm : ∀ c ∈ m, c < h.n) (hmn : m.Nodup) (hlen : m.length = lay.n) (hG : ∀ g, g < P.globals.size → m[g]? = some g) (hout : ∀ b, lay.n ≤ b → lay.t.get b = none) (hl : lentAll m h lay m 0 = true)
    (hargs : AV.rens (lentAs m) args' = some args) (hnod : ids.Nodup) (hids : ∀ b ∈ ids, m.length ≤ b)
    (hb : blksOf (nameOf m h.n h1 ids) h1 ids = some blks) (hv : v1.ren (nameOf m h.n h1 ids) = some v') :
    SndF P Post f args' h none v' { n := h.n + ids.length, t := h.t.puts h.n blks } none := by
  intro B w₀ K env Args S w fr cs hA hH hn
  have hS : S = none := by
    have := hH.snd
    cases S with
    | none => rfl
    | some x => exact this.elim
  subst hS
  have hB : B ≤ w.heap.size := by have := hH.size; have := hH.bound; omega
  obtain ⟨K', hs0, hK⟩ := lent_heap hH hm hmn hlen hG hout hl
  refine hf w.heap.size w K' (env.lend m) Args none w fr cs (hA.ren lent_ren hargs) hs0 fun env1 V S' w1 hle1 hV hs1 => ?_
  have hS' : S' = none := by
    have := hs1.snd
    cases S' with
    | none => rfl
    | some x => exact this.elim
  subst hS'
  obtain ⟨q1, q2, q3⟩ := import_sound hm hH hs1 hB hnod hids (fun b c hbc ⟨e, n, cs, op, hg⟩ => by
    have hcut : (env.lend m).blk b = env.blk c := by simp only [Env.lend, hbc]
    have hcutx : (env.lend m).ex b = env.ex c := by simp only [Env.lend, hbc]
    have notdead : env1.blk b ≠ .dead := fun hd => by
      have := hs1.dead b hd
      rw [hg] at this; cases this
    cases he : env.blk c with
    | hole =>
      have := hK b c hbc he
      exact ⟨(hs1.hol b this).1, fun x sh hx => by cases hx⟩
    | dead => exact absurd (hle1.dead b (hcut.trans he)) notdead
    | «at» x sh =>
      rcases hle1.at_ b x sh (hcut.trans he) with ⟨g1, g2⟩ | g1
      · exact ⟨g1, fun _ _ _ => g2.trans hcutx⟩
      · exact absurd g1 notdead) hb
  exact hn _ V none w1 q2 (hV.ren q3 hv) q1
end
end
end Go.Cx

/-
  A TABLE OF CONTRACTS AS AN ORACLE.
-/
namespace Go.Cx
noncomputable section
open Go Go.Conc

/-- A contract: over these lent blocks a call of f with these arguments yields this value and these new blocks. -/
structure Con where
  f : FuncId
  lent : List ABlk
  args : List AV
  v : AV
  blks : List ABlk

def heapOf (l : List ABlk) : AH := { n := l.length, t := T.ofList l }
def Con.lay (c : Con) : AH := heapOf c.lent
def Con.out (c : Con) : AH := { n := c.lent.length + c.blks.length, t := c.lay.t.puts c.lent.length c.blks }
def Con.Ok (P : Program) (c : Con) : Prop := ∀ Post, SndF P Post c.f c.args c.lay none c.v c.out none

theorem heapOf_out (l : List ABlk) (b : Nat) (h : l.length ≤ b) : (heapOf l).t.get b = none := by
  simp only [heapOf, T.get_ofList]
  exact List.getElem?_eq_none h

def addRef (g : Nat) (acc : List Nat) (b : Nat) : List Nat :=
  match Nat.blt b g || acc.any (fun x => Nat.beq x b) with
  | true => acc
  | false => acc ++ [b]
mutual
/-- The blocks that a value leads to, behind those that are known. -/
def AV.refs (g : Nat) : AV → List Nat → List Nat
  | .ptr (some (b, _)), acc => addRef g acc b
  | .slice (some (b, _)) _ _ _, acc => addRef g acc b
  | .map (some b), acc => addRef g acc b
  | .func _ x y, acc => AV.refsL g y (AV.refsL g x acc)
  | .iface _ v, acc => AV.refs g v acc
  | .agg l, acc => AV.refsL g l acc
  | .tuple l, acc => AV.refsL g l acc
  | _, acc => acc
def AV.refsL (g : Nat) : List AV → List Nat → List Nat
  | [], acc => acc
  | v :: l, acc => AV.refsL g l (AV.refs g v acc)
end
def blkRefs (g : Nat) (acc : List Nat) : ABlk → List Nat
  | .cells _ n c _ _ => match c.gets 0 n with
    | some l => AV.refsL g l acc
    | none => acc
  | _ => acc
/-- And on from these, so many times. -/
def reachOn (h : AH) (g : Nat) : Nat → Nat → List Nat → List Nat
  | 0, _, acc => acc
  | k + 1, i, acc => match acc[i]? with
    | none => acc
    | some b => match h.t.get b with
      | some blk => reachOn h g k (i + 1) (blkRefs g acc blk)
      | none => acc
def nodupB : List Nat → Bool
  | [] => true
  | x :: l => !(l.any (fun y => Nat.beq y x)) && nodupB l
theorem nodupB_sound : ∀ {l : List Nat}, nodupB l = true → l.Nodup
  | [], _ => List.nodup_nil
  | x :: l, h => by
    simp only [nodupB, Bool.and_eq_true, Bool.not_eq_true', List.any_eq_false] at h
    refine List.nodup_cons.2 ⟨fun hx => ?_, nodupB_sound h.2⟩
    exact h.1 x hx (Nat.beq_refl x)

/-- The contract used at this call; the g first blocks are lent under their own numbers, further ones as the arguments lead to them. -/
def Con.use (c : Con) (g deep : Nat) (args : List AV) (h : AH) : Option (AV × AH) :=
    let m := List.range g ++ reachOn h g deep 0 (AV.refsL g args [])
    match Nat.beq m.length c.lent.length && m.all (fun b => Nat.blt b h.n) && nodupB m && lentAll m h c.lay m 0 with
    | false => none
    | true => match AV.rens (lentAs m) args with
      | none => none
      | some a => match eqvs a c.args with
        | false => none
        | true =>
          let ids := List.range' c.lent.length c.blks.length
          match blksOf (nameOf m h.n c.out ids) c.out ids, c.v.ren (nameOf m h.n c.out ids) with
          | some blks, some v => some (v, { n := h.n + ids.length, t := h.t.puts h.n blks })
          | _, _ => none

section
variable {P : Program} {Post : Value → World → Prop}
theorem Con.use_sound {c : Con} (hc : c.Ok P) {g : Nat} (hg : P.globals.size ≤ g) {deep : Nat} {args : List AV} {h h' : AH} {v : AV} (hu : c.use g deep args h = some (v, h')) : SndF P Post c.f args h none v h' none := by
  unfold Con.use at hu
  · dsimp only at hu
    generalize reachOn h g deep 0 (AV.refsL g args []) = bs at hu
    split at hu
    · cases hu
    · rename_i hck
      simp only [Bool.and_eq_true, List.all_eq_true, Nat.blt_eq] at hck
      obtain ⟨⟨⟨h1, h2⟩, h3⟩, h4⟩ := hck
      split at hu
      · cases hu
      · rename_i a ha
        split at hu
        · cases hu
        · rename_i he
          have := eqvs_eq he
          subst this
          split at hu
          · rename_i blks v' hb hv
            simp only [Option.some.injEq, Prod.mk.injEq] at hu
            obtain ⟨rfl, rfl⟩ := hu
            have hlen : (List.range g ++ bs).length = c.lay.n := Nat.eq_of_beq_eq_true h1
            refine SndF.frame (hc Post) h2 (nodupB_sound h3) hlen (fun x hx => ?_) (heapOf_out _) h4 ha List.nodup_range' (fun b hb => ?_) hb hv
            · have hxg : x < g := Nat.lt_of_lt_of_le hx hg
              rw [List.getElem?_append_left (by simpa using hxg)]
              simp [hxg]
            · rw [hlen]
              simp only [List.mem_range'_1] at hb
              exact hb.1
          · cases hu

/-- A call reckoned over lent blocks alone: its value, and those of its blocks that are to be told. -/
noncomputable def conRun (P : Program) (X : Orc) (k : Nat) (f : FuncId) (lent : List ABlk) (args : List AV) (ids : List Nat) : Option (AV × List ABlk) :=
  match crun P X k f args (heapOf lent) none with
  | some (v1, h1, none) => match blksOf (nameOf (List.range lent.length) lent.length h1 ids) h1 ids, v1.ren (nameOf (List.range lent.length) lent.length h1 ids) with
    | some blks, some v => some (v, blks)
    | _, _ => none
  | _ => none
/-- What is to be looked at of a contract's lent blocks, arguments and told blocks. -/
def conOk (P : Program) (f : FuncId) (lent : List ABlk) (args : List AV) (ids : List Nat) : Bool :=
  aCallable P f && Nat.ble P.globals.size lent.length && lentAll (List.range lent.length) (heapOf lent) (heapOf lent) (List.range lent.length) 0 &&
    (match AV.rens (lentAs (List.range lent.length)) args with | some a => eqvs a args | none => false) && nodupB ids && ids.all fun b => Nat.ble lent.length b

theorem conRun_sound {X : Orc} (hm : P.follows .mixedOrders = true) (hX : ∀ Post, OrcS P Post X) {k : Nat} {f : FuncId} {lent : List ABlk} {args : List AV} {ids : List Nat} {v : AV} {blks : List ABlk}
    (h : conRun P X k f lent args ids = some (v, blks)) (hok : conOk P f lent args ids = true) : (Con.mk f lent args v blks).Ok P := by
  intro Post
  unfold conOk at hok
  simp only [Bool.and_eq_true, List.all_eq_true, Nat.ble_eq] at hok
  obtain ⟨⟨⟨⟨⟨o1, o2⟩, o3⟩, o4⟩, o5⟩, o6⟩ := hok
  unfold conRun at h
  split at h
  · rename_i v1 h1 hrun
    split at h
    · rename_i bl v2 hb hv
      simp only [Option.some.injEq, Prod.mk.injEq] at h
      obtain ⟨rfl, rfl⟩ := h
      have hlen : bl.length = ids.length := (blksOf_get hb).1
      split at o4
      · rename_i a ha
        have := eqvs_eq o4
        subst this
        have := SndF.frame (lay := heapOf lent) (h := heapOf lent) (m := List.range lent.length) (crun_sound hm (hX Post) k o1 hrun) (fun c hc => by simpa [heapOf] using hc) List.nodup_range (by simp [heapOf]) (fun g hg => by simp [Nat.lt_of_lt_of_le hg o2]) (heapOf_out _) o3 ha (nodupB_sound o5) (fun b hb => by simpa using o6 b hb) hb hv
        simp only [Con.lay, Con.out, hlen]
        exact this
      · cases o4
    · cases h
  · cases h

/-- A table of contracts. -/
structure Tab where
  c : Con
  g : Nat
  deep : Nat
def useFirst (args : List AV) (h : AH) : List Tab → Option (AV × AH)
  | [] => none
  | x :: l => match x.c.use x.g x.deep args h with
    | some r => some r
    | none => useFirst args h l
def tabCall (t : T (List Tab)) (f : FuncId) (args : List AV) (h : AH) (s : Option (Nat × List AV)) : Option (AV × AH) :=
  match t.get f with
  | none => none
  | some l => match s with
    | none => useFirst args h l
    | some _ => none
def Tab.Ok (P : Program) (f : FuncId) (x : Tab) : Prop := x.c.f = f ∧ x.c.Ok P ∧ P.globals.size ≤ x.g
theorem useFirst_sound {f : FuncId} {args : List AV} {h h' : AH} {v : AV} : ∀ {l : List Tab}, (∀ x ∈ l, x.Ok P f) → useFirst args h l = some (v, h') → SndF P Post f args h none v h' none
  | [], _, h => by cases h
  | x :: l, ho, hu => by
    simp only [useFirst] at hu
    split at hu
    · rename_i r hr
      cases hu
      obtain ⟨rfl, h2, h3⟩ := ho x (by simp)
      exact Con.use_sound h2 h3 hr
    · exact useFirst_sound (fun y hy => ho y (by simp [hy])) hu
theorem tabCall_sound {t : T (List Tab)} (ht : ∀ f l, t.get f = some l → ∀ x ∈ l, x.Ok P f) {f : FuncId} {args : List AV} {h h' : AH} {v : AV} {s : Option (Nat × List AV)} (hu : tabCall t f args h s = some (v, h')) : SndF P Post f args h s v h' s := by
  unfold tabCall at hu
  split at hu
  · cases hu
  · rename_i l hl
    split at hu
    · exact useFirst_sound (ht f l hl) hu
    · cases hu
/-- A table out of a row. -/
def tabOf (l : List (FuncId × List Tab)) : T (List Tab) := l.foldl (fun t x => t.set x.1 x.2) .nil
theorem tabOf_sound {l : List (FuncId × List Tab)} (hl : ∀ p ∈ l, ∀ x ∈ p.2, x.Ok P p.1) : ∀ f m, (tabOf l).get f = some m → ∀ x ∈ m, x.Ok P f := by
  have key : ∀ (l : List (FuncId × List Tab)) (t : T (List Tab)), (∀ p ∈ l, ∀ x ∈ p.2, x.Ok P p.1) → (∀ f m, t.get f = some m → ∀ x ∈ m, x.Ok P f) → ∀ f m, (l.foldl (fun t x => t.set x.1 x.2) t).get f = some m → ∀ x ∈ m, x.Ok P f := by
    intro l
    induction l with
    | nil => exact fun t _ ht => ht
    | cons p l ih =>
      intro t hl ht
      rw [List.foldl_cons]
      refine ih _ (fun q hq => hl q (by simp [hq])) fun f m hf => ?_
      rw [T.get_set] at hf
      split at hf
      · rename_i e
        cases hf
        subst e
        exact hl p (by simp)
      · exact ht f m hf
  exact key l .nil hl fun f m hf => by simp at hf
end
end
end Go.Cx

/-
  WHAT THE RUNTIME'S OWN FUNCTIONS BEHIND errors.As ANSWER, AT THE TWO KINDS OF ERRORS THAT THE PROGRAM HAS.
-/
namespace Go.Cx
noncomputable section
open Go Go.Conc

/-- A type, as reflectlite hands it on. -/
def rt (t : Nat) : AV := .iface 437 (.agg [.raw ⟨7, t, none⟩])
/-- A variable of this type, as reflectlite hands it on. -/
def rv (t : Nat) (p : Nat × Nat) (fl : Int) : AV := .agg [.raw ⟨7, t, none⟩, .ptr (some p), .int .u64 fl]

def isPtr : AV → Bool
  | .ptr (some _) => true
  | _ => false
def asFn (P : Program) (f : FuncId) (l : List AV) (h : AH) : Option (AV × AH) :=
  match l with
  | [.iface t v] =>
    match Nat.beq f 248, Nat.beq f 322 with
    | true, _ => match (Nat.beq t 268 || Nat.beq t 143) && isPtr v with
      | true => some (rv t (h.n, 0) 150, h.push (.cells t 1 (T.ofList [v]) false false))
      | false => none
    | false, true => match Nat.beq t 143 || Nat.beq t 540 with
      | true => some (rt t, h)
      | false => none
    | false, false => none
  | [.agg [.raw a, .ptr (some (b, o)), .int .u64 fl]] =>
    if a = ⟨7, 268, none⟩ ∧ fl = 150 then
      if f = 249 then some (rt 268, h)
      else match aLoad P h 268 b o with
        | some (.ptr (some p)) => if f = 250 then some (.bool false, h) else if f = 323 then some (rv 143 p 406, h) else none
        | _ => none
    else none
  | [.agg [.raw a, .ptr (some (b, o)), .int .u64 fl], .agg [.raw a', .ptr (some (b', o')), .int .u64 fl']] =>
    if f = 324 ∧ a = ⟨7, 143, none⟩ ∧ fl = 406 ∧ a' = ⟨7, 143, none⟩ ∧ fl' = 150 then match aLoad P h 143 b' o' with
      | some (.ptr (some p)) => (aStore P h 143 b o (.ptr (some p))).map fun h => (.tuple [], h)
      | _ => none
    else none
  | _ => none
def asMethod (name : String) (l : List AV) : Option AV :=
  match l with
  | [.iface 437 (.agg [.raw a])] =>
    if name = "Kind" ∧ (a = ⟨7, 268, none⟩ ∨ a = ⟨7, 143, none⟩) then some (.int .u8 22)
    else if name = "Elem" ∧ a = ⟨7, 268, none⟩ then some (rt 143)
    else none
  | [.iface 437 (.agg [.raw a]), .iface 437 (.agg [.raw b])] =>
    if name = "Implements" ∧ a = ⟨7, 143, none⟩ ∧ b = ⟨7, 32, none⟩ then some (.bool true)
    else if name = "AssignableTo" ∧ a = ⟨7, 143, none⟩ ∧ b = ⟨7, 143, none⟩ then some (.bool true)
    else if name = "AssignableTo" ∧ a = ⟨7, 540, none⟩ ∧ b = ⟨7, 143, none⟩ then some (.bool false)
    else none
  | _ => none
def asExt (P : Program) (op : Op) (l : List AV) (h : AH) : Option (AV × AH) :=
  match op with
  | .call c => match c.callee with
    | .value (.func f) => asFn P f l.tail h
    | .invoke _ name => (asMethod name l).map fun v => (v, h)
    | _ => none
  | _ => none
end
end Go.Cx

/-
  A CALL OF ONE OF THE RUNTIME'S OWN FUNCTIONS, PEELED: what it says, what it reads, and what is left of it.
-/
namespace Go.Cx
noncomputable section
open Go Go.Conc

/-- As 'Does', but for the runtime's own marks. -/
def DoesX {α : Type} (P : Program) (s : Sem α) (w : World) (v : α) (w' : World) : Prop := s.run P w = .ok v w' ∧ ∀ es e, e ∈ s.events P w es → e ∈ es ∨ EvOk e ∨ ∃ f, e.loc = .mark (.extern f)
section
variable {P : Program}
theorem Does.x {α : Type} {s : Sem α} {w w' : World} {v : α} (h : Does P s w v w') : DoesX P s w v w' := ⟨h.1, fun es e he => (h.2 es e he).imp id .inl⟩
theorem DoesX.bind {α β : Type} {x : Sem α} {f : α → Sem β} {w w' w'' : World} {v : α} {u : β} (h : DoesX P x w v w') (h' : DoesX P (f v) w' u w'') : DoesX P (x >>= f) w u w'' := by
  refine ⟨by simp [h.1, h'.1], fun es e he => ?_⟩
  rw [Sem.events_bind, h.1, Result.evThen_ok] at he
  rcases h'.2 _ _ he with he | he
  · exact h.2 _ _ he
  · exact .inr he

theorem mem_seen' {fn : FuncId} {es : Array Event} {e : Event} (h : e ∈ seen P fn es) : ∀ f, e.loc ≠ .mark (.extern f) := by
  unfold seen at h
  simp only [← Array.foldl_toList] at h
  have key : ∀ (l : List Event) (x : Bool × Array Event), e ∈ (l.foldl (fun (x : Bool × Array Event) e => match e.loc with
      | .mark (.extern f) => ((P.funcs[f]?).any (·.norace), x.2)
      | _ => (x.1, if x.1 && !e.sync then x.2 else x.2.push e)) x).2 → e ∈ x.2 ∨ ∀ f, e.loc ≠ .mark (.extern f) := by
    intro l
    induction l with
    | nil => intro x h; exact .inl h
    | cons y l ih =>
      intro x h
      rw [List.foldl_cons] at h
      rcases ih _ h with h | h
      · split at h
        · exact .inl h
        · rename_i hy
          dsimp only at h
          split at h
          · exact .inl h
          · rcases Array.mem_push.1 h with h | rfl
            · exact .inl h
            · exact .inr fun f hf => hy f hf
      · exact .inr h
  rcases key es.toList _ h with h | h
  · simp at h
  · exact h

theorem DoesX.listed {a : Act} {o : Oper} {w w' : World} {n : Next} (h : DoesX P (execOp a.eval o) w n w') (fn : FuncId) : ∀ e ∈ listed P fn a o w, EvOk e := by
  intro e he
  rcases h.2 #[] e (mem_seen he) with h1 | h1 | ⟨f, h1⟩
  · simp at h1
  · exact h1
  · exact absurd h1 (mem_seen' he f)

inductive Ev where
  | mark (m : Mark)
  | ld (m : Mode) (a : Addr) (v : Value)

def peel {α : Type} (P : Program) : Nat → Sem α → List Value → Option (List Ev × Sem α)
  | 0, _, _ => none
  | n + 1, .program k, vs => peel P n (k P) vs
  | n + 1, .mark m k, vs => match peel P n k vs with
    | some (es, s) => some (.mark m :: es, s)
    | none => none
  | n + 1, .load m a k, v :: vs => match peel P n (k v) vs with
    | some (es, s) => some (.ld m a v :: es, s)
    | none => none
  | _ + 1, s, [] => some ([], s)
  | _ + 1, _, _ :: _ => none

def readsOk (w : World) : List Ev → Prop
  | [] => True
  | .mark m :: l => (∃ f, m = .extern f) ∧ readsOk w l
  | .ld _ a v :: l => w.cell? a = some v ∧ readsOk w l

theorem peel_does {α : Type} {r : α} {w w' : World} : ∀ {n : Nat} {s : Sem α} {vs : List Value} {es : List Ev} {s' : Sem α}, peel P n s vs = some (es, s') → readsOk w es → DoesX P s' w r w' → DoesX P s w r w' := by
  intro n
  induction n with
  | zero => intro s vs es s' h; simp [peel] at h
  | succ n ih =>
    intro s vs es s' h hr hd
    cases s with
    | program k =>
      simp only [peel] at h
      have := ih h hr hd
      exact ⟨this.1, fun es e he => this.2 es e he⟩
    | mark m k =>
      simp only [peel] at h
      split at h
      · rename_i es1 s1 h1
        cases h
        obtain ⟨⟨f, rfl⟩, h2⟩ := hr
        have := ih h1 h2 hd
        refine ⟨this.1, fun es e he => ?_⟩
        rcases this.2 (es.push ⟨.mark (.extern f), false, true⟩) e he with h3 | h3
        · rcases Array.mem_push.1 h3 with h3 | rfl
          · exact .inl h3
          · exact .inr (.inr ⟨f, rfl⟩)
        · exact .inr h3
      · cases h
    | load m a k =>
      cases vs with
      | nil => simp only [peel, Option.some.injEq, Prod.mk.injEq] at h; obtain ⟨rfl, rfl⟩ := h; exact hd
      | cons v vs =>
        simp only [peel] at h
        split at h
        · rename_i es1 s1 h1
          cases h
          obtain ⟨hc, h2⟩ := hr
          have := ih h1 h2 hd
          refine ⟨by rw [← this.1]; simp [Sem.run, hc], fun es e he => ?_⟩
          rcases this.2 (es.push ⟨.cell a, false, m == .atomic⟩) e (by simpa only [Sem.events, Sem.runT, hc] using he) with h3 | h3
          · rcases Array.mem_push.1 h3 with h3 | rfl
            · exact .inl h3
            · exact .inr (.inl ⟨by simp, by simp⟩)
          · exact .inr h3
        · cases h
    | _ => cases vs <;> first
        | (simp only [peel, Option.some.injEq, Prod.mk.injEq] at h; obtain ⟨rfl, rfl⟩ := h; exact hd)
        | (simp [peel] at h)
theorem DoesX.pure {α : Type} (v : α) (w : World) : DoesX P (.pure v) w v w := (Does.pure v w).x
theorem DoesX.new {α : Type} {o : Obj} {k : Nat → Sem α} {w w' : World} {v : α} (h : DoesX P (k w.heap.size) { w with heap := w.heap.push o } v w') : DoesX P (.new o k) w v w' :=
  DoesX.bind (x := newObj o) (f := k) (does_newObj o w).x h
theorem DoesX.store {α : Type} {c o : Nat} {v : Value} {k : Sem α} {w w1 w' : World} {r : α} (h1 : Does P (storeCells ⟨c, o, none⟩ [v]) w () w1) (h : DoesX P k w1 r w') : DoesX P (.store .plain ⟨c, o, none⟩ v k) w r w' := by
  have : Does P (.store .plain ⟨c, o, none⟩ v (.pure ())) w () w1 := h1
  exact DoesX.bind (f := fun _ => k) this.x h
end
end
end Go.Cx

