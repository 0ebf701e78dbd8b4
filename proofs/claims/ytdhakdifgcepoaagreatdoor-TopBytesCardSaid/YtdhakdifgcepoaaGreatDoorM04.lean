/-
  A SYMBOLIC RUN: the interpreter, told what some operations yield; what it was told is to be shown. ..
-/
import Derived.Test.YtdhakdifgcepoaaGreatDoorM03
/-
  A SYMBOLIC RUN: the interpreter, told what some operations yield; what it was told is to be shown.
-/
namespace Go.Cx
noncomputable section
open Go Go.Conc

/-- What is told of an operation. -/
inductive Ov where
  | val (v : AV) (h : AH)
  | skip (h : AH)
  | call (f : FuncId) (args : List AV) (v : AV) (h : AH)
  | pure (v : AV)
  /-- A call that is told over every heap that L lets pass. -/
  | told (f : FuncId) (args : List AV) (v : AV) (L : AH → Bool) (g : AH → AH)
def Ov.fits : Ov → AH → Option (Nat × List AV) → Bool
  | .told _ _ _ L _, h, none => L h
  | .told _ _ _ _ _, _, some _ => false
  | _, _, _ => true
def Ov.heap (h0 : AH) : Ov → AH
  | .val _ h => h
  | .skip h => h
  | .call _ _ _ h => h
  | .pure _ => h0
  | .told _ _ _ _ g => g h0
def Ov.value : Ov → AV
  | .pure v => v
  | .val v _ => v
  | .skip _ => .tuple []
  | .call _ _ v _ => v
  | .told _ _ v _ _ => v

section
variable (P : Program) (Post : Value → World → Prop) (X : Orc)
def Ov.Holds (ρ : Operand → Option AV) (o : Oper) (h : AH) (s : Option (Nat × List AV)) : Ov → Prop
  | .val v h' => aop P ρ o h = some (.val v, h')
  | .skip h' => aop P ρ o h = some (.skip, h')
  | .call f args v h' => aop P ρ o h = some (.call f args, h) ∧ SndF P Post f args h s v h' s
  | .pure v => ∀ h, aop P ρ o h = some (.val v, h)
  | .told f args v L g => (∀ h, aop P ρ o h = some (.call f args, h)) ∧ ∀ h, L h = true → SndF P Post f args h none v (g h) none

def hText (call : CallF) (ops : Array Oper) (ov : Nat → Option Ov) : List Nat → AS → Option (AS × List Prop)
  | [], st => some (st, [])
  | i :: l, st => match ov i with
    | none => match aOne P X call ops st i with
      | some st' => hText call ops ov l st'
      | none => none
    | some x => match ops[i]? with
      | none => none
      | some o => match aWanted ops o st.t with
        | false => none
        | true => match x.fits st.h st.s with
          | false => none
          | true => match AS.put { st with h := x.heap st.h } o.dst x.value with
            | none => none
            | some st' => match hText call ops ov l st' with
              | some (st'', ps) => some (st'', x.Holds P Post (aRho P.globals.size st.t) o st.h st.s :: ps)
              | none => none

/-- What was told of an operation that neither calls nor starts anything. -/
def Ov.Says (ρ : Operand → Option AV) (o : Oper) (h : AH) : Ov → Prop
  | .val v h' => aop P ρ o h = some (.val v, h')
  | .skip h' => aop P ρ o h = some (.skip, h')
  | .call .. => False
  | .pure v => ∀ h, aop P ρ o h = some (.val v, h)
  | .told .. => False
def vText (call : CallF) (ops : Array Oper) (ov : Nat → Option Ov) : List Nat → AS → Option (AS × List Prop)
  | [], st => some (st, [])
  | i :: l, st => match ov i with
    | none => match aOne P X call ops st i with
      | some st' => vText call ops ov l st'
      | none => none
    | some x => match ops[i]? with
      | none => none
      | some o => match aWanted ops o st.t with
        | false => none
        | true => match AS.put { st with h := x.heap st.h } o.dst x.value with
          | none => none
          | some st' => match vText call ops ov l st' with
            | some (st'', ps) => some (st'', x.Says P (aRho P.globals.size st.t) o st.h :: ps)
            | none => none
def vDrawn (call : CallF) (ops : Array Oper) (ov : Nat → Option Ov) : List Stage → AS → Option (AS × List Prop)
  | [], _ => none
  | (fl, none) :: _, st => vText P X call ops ov fl st
  | (fl, some (c, again)) :: l, st => match vText P X call ops ov fl st with
    | none => none
    | some (st1, ps) => match vText P X call ops ov [c] st1 with
      | none => none
      | some (st2, qs) => match vDrawn call ops ov l st2 with
        | none => none
        | some (st3, rs) => match again.filter (needs ops) with
          | [] => some (st3, ps ++ (qs ++ rs))
          | ag => some (st3, ps ++ (qs ++ ((ag.all (aStill P ops st2) = true) :: rs)))
noncomputable def hden (ov : Nat → Nat → Option Ov) : Nat → Code → AS → Option (Ex × AS × List Prop)
  | 0, _, _ => none
  | k + 1, c, st => match c with
    | .skip => some (.normal, st, [])
    | .label _ => some (.normal, st, [])
    | .ret => some (.ret, st, [])
    | .exit id => some (.exit id, st, [])
    | .seq a b => match hden ov k a st with
      | some (.normal, st', ps) => match hden ov k b st' with
        | some (e, st'', qs) => some (e, st'', ps ++ qs)
        | none => none
      | r => r
    | .cond c a b => match aRho P.globals.size st.t c with
      | some (.bool true) => hden ov k a st
      | some (.bool false) => hden ov k b st
      | _ => none
    | .block id b => match hden ov k b st with
      | some (.exit j, st', ps) => if j = id then some (.normal, st', ps) else some (.exit j, st', ps)
      | r => r
    | .loop b => match hden ov k b st with
      | some (.normal, st', ps) => match hden ov k (.loop b) st' with
        | some (e, st'', qs) => some (e, st'', ps ++ qs)
        | none => none
      | r => r
    | .scope b => hden ov k b st
    | .region id ops false => match hText P Post X (crun P X 3000) ops (ov id) (List.range ops.size) st with
      | some (st', ps) => some (.normal, st', ps)
      | none => none
    | .region id ops true => match stagesOf P ops with
      | some sg => match vDrawn P X (crun P X 3000) ops (ov id) sg st with
        | some (st', ps) => some (.normal, st', ps)
        | none => none
      | none => none
    | _ => none
end

/-- All of these. -/
def All : List Prop → Prop
  | [] => True
  | p :: l => p ∧ All l
theorem All.app : ∀ {l m : List Prop}, All (l ++ m) → All l ∧ All m
  | [], _, h => ⟨trivial, h⟩
  | _ :: _, _, ⟨h1, h2⟩ => ⟨⟨h1, (All.app h2).1⟩, (All.app h2).2⟩

section
variable {P : Program} {Post : Value → World → Prop} {X : Orc} {call : CallF}

theorem vText_eq {ops : Array Oper} {ov : Nat → Option Ov} : ∀ {l : List Nat} {st st' : AS} {ps : List Prop}, vText P X call ops ov l st = some (st', ps) → All ps → aText P X call ops l st = some st'
  | [], st, st', ps, h, _ => by
    simp only [vText, Option.some.injEq, Prod.mk.injEq] at h
    obtain ⟨rfl, rfl⟩ := h
    rfl
  | i :: l, st, st', ps, h, hp => by
    simp only [vText] at h
    simp only [aText]
    split at h
    · split at h
      · rename_i st1 h1
        rw [h1]
        exact vText_eq h hp
      · cases h
    · rename_i x hx
      split at h
      · cases h
      · rename_i o ho
        split at h
        · cases h
        · rename_i hw
          split at h
          · cases h
          · rename_i st1 hput
            split at h
            · rename_i st2 qs hr
              simp only [Option.some.injEq, Prod.mk.injEq] at h
              obtain ⟨rfl, rfl⟩ := h
              have h1 : aOne P X call ops st i = some st1 := by
                unfold aOne
                rw [ho]
                simp only [hw, if_true]
                have hs := hp.1
                cases x with
                | val v h' => simp only [Ov.Says] at hs; rw [hs]; exact hput
                | skip h' => simp only [Ov.Says] at hs; rw [hs]; exact hput
                | call f a v h' => exact hs.elim
                | pure v => simp only [Ov.Says] at hs; rw [hs]; exact hput
                | told f a v L g => exact hs.elim
              rw [h1]
              exact vText_eq hr hp.2
            · cases h
theorem vDrawn_eq {ops : Array Oper} {ov : Nat → Option Ov} : ∀ {l : List Stage} {st st' : AS} {ps : List Prop}, vDrawn P X call ops ov l st = some (st', ps) → All ps → aDrawn P X call ops l st = some st'
  | [], st, st', ps, h, _ => by simp [vDrawn] at h
  | (fl, none) :: _, st, st', ps, h, hp => by
    simp only [vDrawn] at h
    simp only [aDrawn]
    exact vText_eq h hp
  | (fl, some (c, again)) :: l, st, st', ps, h, hp => by
    simp only [vDrawn] at h
    simp only [aDrawn]
    split at h
    · cases h
    · rename_i st1 ps1 e1
      split at h
      · cases h
      · rename_i st2 qs e2
        split at h
        · cases h
        · rename_i st3 rs e3
          have hn := needs_all P ops st2 again
          split at h
          · rename_i hf
            rw [hf] at hn
            simp only [Option.some.injEq, Prod.mk.injEq] at h
            obtain ⟨rfl, rfl⟩ := h
            obtain ⟨p1, p2⟩ := All.app hp
            obtain ⟨p3, p4⟩ := All.app p2
            rw [vText_eq e1 p1]
            have := vText_eq e2 p3
            rw [aText_one] at this
            simp only [List.all_nil] at hn
            simp only [this, ← hn, if_true]
            exact vDrawn_eq e3 p4
          · simp only [Option.some.injEq, Prod.mk.injEq] at h
            obtain ⟨rfl, rfl⟩ := h
            obtain ⟨p1, p2⟩ := All.app hp
            obtain ⟨p3, p4⟩ := All.app p2
            rw [vText_eq e1 p1]
            have := vText_eq e2 p3
            rw [aText_one] at this
            have p5 := p4.1
            rw [hn] at p5
            simp only [this, p5, if_true]
            exact vDrawn_eq e3 p4.2
theorem SndI.trans {D : Nat → Prop} {ops : Array Oper} {l m : List Nat} {st st1 st2 : AS} (h1 : SndI P Post D ops l st st1) (h2 : SndI P Post D ops m st1 st2) : SndI P Post D ops (l ++ m) st st2 := by
  intro B w₀ K env a S w b k cs rest hk hT hH hn
  rw [List.append_assoc]
  refine h1 B w₀ K env a S w b k cs (m ++ rest) hk hT hH fun env1 a1 S1 w1 hle1 hT1 hH1 => ?_
  exact h2 B w₀ K env1 a1 S1 w1 b k cs rest hk hT1 hH1 fun env2 a2 S2 w2 hle2 hT2 hH2 => hn env2 a2 S2 w2 (Env.le_trans hle1 hle2) hT2 hH2

theorem ov_sound {ops : Array Oper} {i : Nat} {o : Oper} {x : Ov} {st st' : AS} (ho : ops[i]? = some o) (hw : aWanted ops o st.t = true) (hfit : x.fits st.h st.s = true) (hx : x.Holds P Post (aRho P.globals.size st.t) o st.h st.s) (hp : AS.put { st with h := x.heap st.h } o.dst x.value = some st') :
    SndI P Post noD ops [i] st st' := by
  intro B w₀ K env a S w b k cs rest hk hT hH hn
  have hO : OpS P B w₀ K := opS
  have hDo := sees_noD ops o
  simp only [List.singleton_append]
  have hw' : Region.wanted o (yielded ops a.tmps) = true := by rw [hT.wanted hDo]; exact hw
  cases x with
  | val v h =>
    have ha : aop P (restr noD (aRho P.globals.size st.t)) o st.h = some (.val v, h) := by rw [restr_aop hDo]; exact hx
    refine runs_op ho hw' hk fun w₁ h₁ => ?_
    have hH₁ := hH.rely h₁
    obtain ⟨env', V, w', hle, hr, hv, hh, hown⟩ := hO.val b.fn ha (hT.evr hH₁) hH₁
    obtain ⟨hT', e1, e2⟩ := TR.put (st := { st with h := h }) (hT.mono hle) hp hv
    exact ⟨V, w', .inl hr, hown, hn env' _ S w' hle hT' (by rw [e1, e2]; exact hh)⟩
  | pure v =>
    have ha : aop P (restr noD (aRho P.globals.size st.t)) o st.h = some (.val v, st.h) := by rw [restr_aop hDo]; exact hx st.h
    refine runs_op ho hw' hk fun w₁ h₁ => ?_
    have hH₁ := hH.rely h₁
    obtain ⟨env', V, w', hle, hr, hv, hh, hown⟩ := hO.val b.fn ha (hT.evr hH₁) hH₁
    obtain ⟨hT', e1, e2⟩ := TR.put (st := { st with h := st.h }) (hT.mono hle) hp hv
    exact ⟨V, w', .inl hr, hown, hn env' _ S w' hle hT' (by rw [e1, e2]; exact hh)⟩
  | skip h =>
    have ha : aop P (restr noD (aRho P.globals.size st.t)) o st.h = some (.skip, h) := by rw [restr_aop hDo]; exact hx
    refine runs_op ho hw' hk fun w₁ h₁ => ?_
    have hH₁ := hH.rely h₁
    obtain ⟨env', w', hle, hr, hh, hown⟩ := hO.skip b.fn ha (hT.evr hH₁) hH₁
    obtain ⟨hT', e1, e2⟩ := TR.put (st := { st with h := h }) (hT.mono hle) hp (vr_undef env')
    exact ⟨undef, w', .inr ⟨hr, rfl⟩, hown, hn env' _ S w' hle hT' (by rw [e1, e2]; exact hh)⟩
  | told f args v L g =>
    obtain ⟨ha, hf⟩ := hx
    obtain ⟨t, n, h, s⟩ := st
    simp only [Ov.fits] at hfit
    cases s with
    | some x => exact absurd hfit (by simp)
    | none =>
    have ha := ha h
    have hf := hf h hfit
    rw [← restr_aop hDo] at ha
    obtain ⟨-, hcal, Args, hargs, hrun⟩ := hO.call b.fn ha (hT.evr hH)
    obtain ⟨fn, c, hf', hname, hb⟩ := enter_call hcal
    refine .go rfl fun w₁ h₁ => ⟨_, _, _, stepG_enter ho hw' hk (hrun w₁).1, ?_, ?_⟩
    · rw [(hrun w₁).2]; exact own_idle _
    · refine hf B w₀ K env Args S w₁ _ _ hargs (hH.rely h₁) fun env' V S' w' hle hv hh => ?_
      have hfin : (b.at a (.inRegion ops (i :: rest) :: k)).finish V = b.at (a.put o.dst V) (.inRegion ops rest :: k) := by rw [Frame.finish_at, ho]; rfl
      rw [hfin]
      obtain ⟨hT', e1, e2⟩ := TR.put (st := { t := t, n := n, h := g h, s := none }) (hT.mono hle) hp hv
      exact hn env' _ S' w' hle hT' (by rw [e1, e2]; exact hh)
  | call f args v h =>
    obtain ⟨ha, hf⟩ := hx
    rw [← restr_aop hDo] at ha
    obtain ⟨-, hcal, Args, hargs, hrun⟩ := hO.call b.fn ha (hT.evr hH)
    obtain ⟨fn, c, hf', hname, hb⟩ := enter_call hcal
    refine .go rfl fun w₁ h₁ => ⟨_, _, _, stepG_enter ho hw' hk (hrun w₁).1, ?_, ?_⟩
    · rw [(hrun w₁).2]; exact own_idle _
    · refine hf B w₀ K env Args S w₁ _ _ hargs (hH.rely h₁) fun env' V S' w' hle hv hh => ?_
      have hfin : (b.at a (.inRegion ops (i :: rest) :: k)).finish V = b.at (a.put o.dst V) (.inRegion ops rest :: k) := by rw [Frame.finish_at, ho]; rfl
      rw [hfin]
      obtain ⟨hT', e1, e2⟩ := TR.put (st := { st with h := h }) (hT.mono hle) hp hv
      exact hn env' _ S' w' hle hT' (by rw [e1, e2]; exact hh)

theorem hText_sound (hX : OrcS P Post X) (hC : CallS P Post call) {ops : Array Oper} {ov : Nat → Option Ov} : ∀ {l : List Nat} {st st' : AS} {ps : List Prop}, hText P Post X call ops ov l st = some (st', ps) → All ps → SndI P Post noD ops l st st'
  | [], st, st', ps, h, _ => by
    simp only [hText, Option.some.injEq, Prod.mk.injEq] at h
    obtain ⟨rfl, rfl⟩ := h
    intro B w₀ K env a S w b k cs rest hk hT hH hn
    exact hn env a S w (Env.le_refl _) hT hH
  | i :: l, st, st', ps, h, hp => by
    simp only [hText] at h
    split at h
    · split at h
      · rename_i st1 h1
        exact SndI.trans (one_sound hX hC (fun o _ => sees_noD ops o) h1) (hText_sound hX hC h hp)
      · cases h
    · rename_i x hx
      split at h
      · cases h
      · rename_i o ho
        split at h
        · cases h
        · rename_i hw
          split at h
          · cases h
          · rename_i hfit
            split at h
            · cases h
            · rename_i st1 hput
              split at h
              · rename_i st2 qs hr
                simp only [Option.some.injEq, Prod.mk.injEq] at h
                obtain ⟨rfl, rfl⟩ := h
                exact SndI.trans (ov_sound ho hw hfit hp.1 hput) (hText_sound hX hC hr hp.2)
              · cases h

/-! ### what code does, put together -/
theorem SndC.seq {x y : Code} {st st1 st2 : AS} {e : Ex} (hx : SndC P Post x st .normal st1) (hy : SndC P Post y st1 e st2) : SndC P Post (.seq x y) st e st2 := by
  intro B w₀ K env a S w b kk cs hk hT hH hn
  refine .ctl rfl (fun w₁ => stepG_seq) ?_
  refine hx B w₀ K env a S w b (.code y :: kk) cs hk hT hH fun env1 a1 S1 w1 hle1 hT1 hH1 => ?_
  exact hy B w₀ K env1 a1 S1 w1 b kk cs hk hT1 hH1 fun env2 a2 S2 w2 hle2 hT2 hH2 => hn env2 a2 S2 w2 (Env.le_trans hle1 hle2) hT2 hH2
theorem SndC.seqL {x y : Code} {st st1 : AS} {e : Ex} (hx : SndC P Post x st e st1) (he : e ≠ .normal) : SndC P Post (.seq x y) st e st1 := by
  intro B w₀ K env a S w b kk cs hk hT hH hn
  refine .ctl rfl (fun w₁ => stepG_seq) ?_
  refine hx B w₀ K env a S w b (.code y :: kk) cs hk hT hH fun env1 a1 S1 w1 hle1 hT1 hH1 => ?_
  exact (hn env1 a1 S1 w1 hle1 hT1 hH1).skip (fun id he => by cases he) he
theorem SndC.cond {c : Operand} {x y : Code} {st st1 : AS} {e : Ex} {v : Bool} (hc : aRho P.globals.size st.t c = some (.bool v)) (h : SndC P Post (if v then x else y) st e st1) : SndC P Post (.cond c x y) st e st1 := by
  intro B w₀ K env a S w b kk cs hk hT hH hn
  have hev : VR env (.bool v) (a.eval c) := hT.evr hH c _ (by
    cases c with
    | tmp t => simp only [restr]; rw [if_neg (show ¬ noD t from fun h => h)]; exact hc
    | _ => exact hc)
  have := hev.inj_bool
  refine .ctl rfl (fun w₁ => stepG_cond this) ?_
  cases v <;> exact h B w₀ K env a S w b kk cs hk hT hH hn
theorem SndC.blockExit {id : Nat} {x : Code} {st st1 : AS} (h : SndC P Post x st (.exit id) st1) : SndC P Post (.block id x) st .normal st1 := by
  intro B w₀ K env a S w b kk cs hk hT hH hn
  refine .ctl rfl (fun w₁ => stepG_block) ?_
  refine h B w₀ K env a S w b (.inBlock id :: kk) cs hk hT hH fun env1 a1 S1 w1 hle1 hT1 hH1 => ?_
  exact ⟨kk, by simp [exitTo], hn env1 a1 S1 w1 hle1 hT1 hH1⟩
theorem SndC.block {id : Nat} {x : Code} {st st1 : AS} {e : Ex} (h : SndC P Post x st e st1) (he : e ≠ .exit id) : SndC P Post (.block id x) st e st1 := by
  intro B w₀ K env a S w b kk cs hk hT hH hn
  refine .ctl rfl (fun w₁ => stepG_block) ?_
  refine h B w₀ K env a S w b (.inBlock id :: kk) cs hk hT hH fun env1 a1 S1 w1 hle1 hT1 hH1 => ?_
  have hh := hn env1 a1 S1 w1 hle1 hT1 hH1
  cases e with
  | normal => exact .ctl rfl (fun w₁ => stepG_inBlock) hh
  | exit j =>
    obtain ⟨k', h2, h3⟩ := hh
    refine ⟨k', ?_, h3⟩
    have : (id == j) = false := by
      simp only [beq_eq_false_iff_ne, ne_eq]
      exact fun e => he (by rw [e])
    simp [exitTo, this, h2]
  | ret => exact hh
theorem SndC.scope {x : Code} {st st1 : AS} {e : Ex} (h : SndC P Post x st e st1) : SndC P Post (.scope x) st e st1 := by
  intro B w₀ K env a S w b kk cs hk hT hH hn
  refine .ctl rfl (fun w₁ => stepG_scope) ?_
  refine h B w₀ K env a S w b (.inScope x :: kk) cs hk hT hH fun env1 a1 S1 w1 hle1 hT1 hH1 => ?_
  have hh := hn env1 a1 S1 w1 hle1 hT1 hH1
  cases e with
  | normal => exact .ctl rfl (fun w₁ => stepG_inScope) hh
  | exit j => exact hh.skip (fun id he => by cases he) (by simp)
  | ret => exact hh
/-- A loop's round that leaves it. -/
theorem SndL.done {x : Code} {st st1 : AS} {e : Ex} (h : SndC P Post x st e st1) (he : e ≠ .normal) : SndL P Post x st e st1 := by
  intro B w₀ K env a S w b kk cs hk hT hH hn
  refine h B w₀ K env a S w b (.inLoop x :: kk) cs hk hT hH fun env1 a1 S1 w1 hle1 hT1 hH1 => ?_
  exact (hn env1 a1 S1 w1 hle1 hT1 hH1).skip (fun id he => by cases he) he
/-- Once round a loop. -/
theorem SndL.step {x : Code} {st st1 st2 : AS} {e : Ex} (h : SndC P Post x st .normal st1) (h2 : SndL P Post x st1 e st2) : SndL P Post x st e st2 := by
  intro B w₀ K env a S w b kk cs hk hT hH hn
  refine h B w₀ K env a S w b (.inLoop x :: kk) cs hk hT hH fun env1 a1 S1 w1 hle1 hT1 hH1 => ?_
  refine .ctl rfl (fun w₁ => stepG_inLoop) ?_
  exact h2 B w₀ K env1 a1 S1 w1 b kk cs hk hT1 hH1 fun env2 a2 S2 w2 hle2 hT2 hH2 => hn env2 a2 S2 w2 (Env.le_trans hle1 hle2) hT2 hH2
theorem SndC.loop {x : Code} {st st1 : AS} {e : Ex} (h : SndL P Post x st e st1) : SndC P Post (.loop x) st e st1 :=
  fun B w₀ K env a S w b kk cs hk hT hH hn => .ctl rfl (fun _w₁ => stepG_loop) (h B w₀ K env a S w b kk cs hk hT hH hn)

theorem hden_sound (hm : P.follows .mixedOrders = true) (hX : OrcS P Post X) {ov : Nat → Nat → Option Ov} : ∀ (k : Nat) (c : Code) (st : AS) (e : Ex) (st' : AS) (ps : List Prop), hden P Post X ov k c st = some (e, st', ps) → All ps →
    SndC P Post c st e st' ∧ ∀ body, c = .loop body → SndL P Post body st e st' := by
  intro k
  induction k with
  | zero => intro c st e st' ps h; simp [hden] at h
  | succ k ih =>
    intro c st e st' ps h hp
    have hC : CallS P Post (crun P X 3000) := crun_sound hm hX 3000
    have lift : (∀ body, c ≠ .loop body) → SndC P Post c st e st' → SndC P Post c st e st' ∧ ∀ body, c = .loop body → SndL P Post body st e st' := fun h1 h2 => ⟨h2, fun body hb => absurd hb (h1 body)⟩
    cases c with
    | skip =>
      simp only [hden, Option.some.injEq, Prod.mk.injEq] at h; obtain ⟨rfl, rfl, rfl⟩ := h
      exact lift (by simp) fun B w₀ K env a S w b kk cs hk hT hH hn => .ctl rfl (fun w₁ => stepG_skip) (hn env a S w (Env.le_refl _) hT hH)
    | label l =>
      simp only [hden, Option.some.injEq, Prod.mk.injEq] at h; obtain ⟨rfl, rfl, rfl⟩ := h
      exact lift (by simp) fun B w₀ K env a S w b kk cs hk hT hH hn => .ctl rfl (fun w₁ => stepG_label) (hn env a S w (Env.le_refl _) hT hH)
    | ret =>
      simp only [hden, Option.some.injEq, Prod.mk.injEq] at h; obtain ⟨rfl, rfl, rfl⟩ := h
      exact lift (by simp) fun B w₀ K env a S w b kk cs hk hT hH hn => .ctl rfl (fun w₁ => stepG_ret') (hn env a S w (Env.le_refl _) hT hH _)
    | exit id =>
      simp only [hden, Option.some.injEq, Prod.mk.injEq] at h; obtain ⟨rfl, rfl, rfl⟩ := h
      refine lift (by simp) fun B w₀ K env a S w b kk cs hk hT hH hn => ?_
      obtain ⟨k', h1, h2⟩ := hn env a S w (Env.le_refl _) hT hH
      exact .ctl rfl (fun w₁ => stepG_exit h1) h2
    | seq x y =>
      simp only [hden] at h
      refine lift (by simp) ?_
      split at h
      · rename_i st1 ps1 hx
        split at h
        · rename_i e2 st2 qs hy
          simp only [Option.some.injEq, Prod.mk.injEq] at h; obtain ⟨rfl, rfl, rfl⟩ := h
          obtain ⟨h1, h2⟩ := All.app hp
          exact .seq (ih x st _ st1 _ hx h1).1 (ih y st1 _ _ _ hy h2).1
        · cases h
      · rename_i hne
        exact .seqL (ih x st _ st' _ h hp).1 (fun he => by subst he; exact hne _ _ h)
    | cond c x y =>
      simp only [hden] at h
      refine lift (by simp) ?_
      split at h
      · rename_i hc
        exact .cond hc (ih x st _ st' _ h hp).1
      · rename_i hc
        exact .cond hc (ih y st _ st' _ h hp).1
      · cases h
    | block id x =>
      simp only [hden] at h
      refine lift (by simp) ?_
      split at h
      · rename_i j st1 ps1 hx
        split at h
        · rename_i e1
          subst e1
          simp only [Option.some.injEq, Prod.mk.injEq] at h; obtain ⟨rfl, rfl, rfl⟩ := h
          exact .blockExit (ih x st _ st1 _ hx hp).1
        · rename_i e1
          simp only [Option.some.injEq, Prod.mk.injEq] at h; obtain ⟨rfl, rfl, rfl⟩ := h
          exact .block (ih x st _ st1 _ hx hp).1 (fun he => by cases he; exact e1 rfl)
      · rename_i hne
        exact .block (ih x st _ st' _ h hp).1 (fun he => by subst he; exact hne _ _ _ h)
    | loop x =>
      simp only [hden] at h
      have key : SndL P Post x st e st' := by
        split at h
        · rename_i st1 ps1 hx
          split at h
          · rename_i e2 st2 qs hy
            simp only [Option.some.injEq, Prod.mk.injEq] at h; obtain ⟨rfl, rfl, rfl⟩ := h
            obtain ⟨h1, h2⟩ := All.app hp
            exact .step (ih x st _ st1 _ hx h1).1 ((ih (.loop x) st1 _ _ _ hy h2).2 x rfl)
          · cases h
        · rename_i hne
          exact .done (ih x st _ st' _ h hp).1 (fun he => by subst he; exact hne _ _ h)
      exact ⟨.loop key, fun body hb => by cases hb; exact key⟩
    | scope x =>
      simp only [hden] at h
      exact lift (by simp) (.scope (ih x st _ st' _ h hp).1)
    | region id ops draw =>
      cases draw with
      | false =>
        simp only [hden] at h
        refine lift (by simp) ?_
        split at h
        · rename_i st1 ps1 ht
          simp only [Option.some.injEq, Prod.mk.injEq] at h; obtain ⟨rfl, rfl, rfl⟩ := h
          intro B w₀ K env a S w b kk cs hk hT hH hn
          refine .ctl rfl (fun w₁ => stepG_region) ?_
          have := hText_sound hX hC ht hp B w₀ K env a S w b kk cs [] hk hT hH fun env1 a1 S1 w1 hle1 hT1 hH1 => ?_
          · simpa using this
          · exact .ctl rfl (fun w₁ => stepG_region_end) (hn env1 a1 S1 w1 hle1 hT1 hH1)
        · cases h
      | true =>
        simp only [hden] at h
        refine lift (by simp) ?_
        split at h
        · rename_i sg hsg
          split at h
          · rename_i st1 ps1 ht
            simp only [Option.some.injEq, Prod.mk.injEq] at h; obtain ⟨rfl, rfl, rfl⟩ := h
            exact drawn_sound hm hX hC hsg (vDrawn_eq ht hp)
          · cases h
        · cases h
    | _ => simp [hden] at h

/-! ### slots, by number alone -/
/-- The same slots. -/
def Agree (st st' : AS) : Prop := st'.n = st.n ∧ st'.h = st.h ∧ st'.s = st.s ∧ (∀ d, d < st.n → (st'.t.get d).getD (.tuple []) = (st.t.get d).getD (.tuple [])) ∧ ∀ d, st.n ≤ d → st'.t.get d = none
theorem Agree.tr {env : Env} {st st' : AS} {a : Act} (h : Agree st st') (hT : TR env noD st.t st.n a) : TR env noD st'.t st'.n a := by
  obtain ⟨h1, h2, h3, h4, h5⟩ := h
  exact ⟨hT.defers, hT.size.trans h1.symm, fun d hd hD => by rw [h4 d (h1 ▸ hd)]; exact hT.val d (h1 ▸ hd) hD, fun d hd => h5 d (h1 ▸ hd)⟩
theorem SndC.pre {c : Code} {st st1 st' : AS} {e : Ex} (h : SndC P Post c st1 e st') (ha : Agree st st1) : SndC P Post c st e st' :=
  fun B w₀ K env a S w b kk cs hk hT hH hn => h B w₀ K env a S w b kk cs hk (ha.tr hT) (by rw [ha.2.1, ha.2.2.1]; exact hH) hn
theorem SndC.post {c : Code} {st st1 st' : AS} {e : Ex} (h : SndC P Post c st e st1) (ha : Agree st1 st') : SndC P Post c st e st' :=
  fun B w₀ K env a S w b kk cs hk hT hH hn => h B w₀ K env a S w b kk cs hk hT hH fun env1 a1 S1 w1 hle1 hT1 hH1 => hn env1 a1 S1 w1 hle1 (ha.tr hT1) (by rw [ha.2.1, ha.2.2.1]; exact hH1)

/-- A function, by its body. -/
theorem SndF.body {f : FuncId} {fn : Func} {c : Code} {args : List AV} {h : AH} {s : Option (Nat × List AV)} {e : Ex} {st : AS} {v : AV} (hX : ∃ X, OrcS P Post X ∧ X.call f args h s = none) (hcal : aCallable P f = true) (hf : P.funcs[f]? = some fn) (hb : fn.body = some c)
    (hd : SndC P Post c { t := T.ofList args, n := args.length + (fn.ntmps - args.length), h, s } e st) (he : ∀ id, e ≠ .exit id) (hr : aResults P fn st = some v) : SndF P Post f args h s v st.h st.s := by
  obtain ⟨X, hX, hx⟩ := hX
  classical
  let d : Code → AS → Option (Ex × AS) := fun c' st' => if c' = c ∧ st' = { t := T.ofList args, n := args.length + (fn.ntmps - args.length), h, s } then some (e, st) else none
  refine aFunc_sound (X := X) hX (d := d) (fun c' st1 e' st' h1 => ?_) hcal ?_
  · simp only [d] at h1
    split at h1
    · rename_i hc
      obtain ⟨rfl, rfl⟩ := hc
      simp only [Option.some.injEq, Prod.mk.injEq] at h1; obtain ⟨rfl, rfl⟩ := h1
      exact hd
    · cases h1
  · unfold aFunc
    rw [hx]
    simp only [hf, hb, d, and_self, if_true]
    cases e with
    | exit id => exact absurd rfl (he id)
    | _ => simp [hr]
end
end
end Go.Cx

/-
  OPERATORS ON NUMBERS THAT ARE NOT BELOW 0.
-/
namespace Go.Cx
noncomputable section
open Go Go.Conc
section
variable {P : Program} {t : TypeId} {c : Bool} {k : IntKind} {a b : Nat}
theorem lim_bits (k : IntKind) : kLim k ≤ 2 ^ k.bits := by cases k <;> decide
theorem aBin_add (h : a + b < kLim k) : aBin P .add t c (.int k (.ofNat a)) (.int k (.ofNat b)) = some (.int k (.ofNat (a + b))) := by
  have : (Int.ofNat a + Int.ofNat b) = Int.ofNat (a + b) := rfl
  simp only [aBin, ne_eq, not_true_eq_false, if_false, this, wrap_lim k _ h]
theorem aBin_mul (h : a * b < kLim k) : aBin P .mul t c (.int k (.ofNat a)) (.int k (.ofNat b)) = some (.int k (.ofNat (a * b))) := by
  have : (Int.ofNat a * Int.ofNat b) = Int.ofNat (a * b) := rfl
  simp only [aBin, ne_eq, not_true_eq_false, if_false, this, wrap_lim k _ h]
theorem aBin_sub (hab : b ≤ a) (h : a < kLim k) : aBin P .sub t c (.int k (.ofNat a)) (.int k (.ofNat b)) = some (.int k (.ofNat (a - b))) := by
  have : (Int.ofNat a - Int.ofNat b) = Int.ofNat (a - b) := by
    show (a : Int) - (b : Int) = ((a - b : Nat) : Int)
    omega
  simp only [aBin, ne_eq, not_true_eq_false, if_false, this, wrap_lim k _ (Nat.lt_of_le_of_lt (Nat.sub_le _ _) h)]
theorem aBin_quo (hb : b ≠ 0) (h : a < kLim k) : aBin P .quo t c (.int k (.ofNat a)) (.int k (.ofNat b)) = some (.int k (.ofNat (a / b))) := by
  have h0 : ¬ (Int.ofNat b = 0) := fun e => hb (by cases b with | zero => rfl | succ n => cases e)
  have : (Int.ofNat a).tdiv (Int.ofNat b) = Int.ofNat (a / b) := rfl
  simp only [aBin, ne_eq, not_true_eq_false, if_false, h0, this, wrap_lim k _ (Nat.lt_of_le_of_lt (Nat.div_le_self _ _) h)]
theorem aBin_rem (hb : b ≠ 0) : aBin P .rem t c (.int k (.ofNat a)) (.int k (.ofNat b)) = some (.int k (.ofNat (a % b))) := by
  have h0 : ¬ (Int.ofNat b = 0) := fun e => hb (by cases b with | zero => rfl | succ n => cases e)
  have : (Int.ofNat a).tmod (Int.ofNat b) = Int.ofNat (a % b) := rfl
  simp only [aBin, ne_eq, not_true_eq_false, if_false, h0, this]
theorem aBin_and (h1 : a < 2 ^ k.bits) (h2 : b < 2 ^ k.bits) (h : a &&& b < kLim k) : aBin P .and t c (.int k (.ofNat a)) (.int k (.ofNat b)) = some (.int k (.ofNat (a &&& b))) := by
  simp only [aBin, ne_eq, not_true_eq_false, if_false, BitVec.toNat_and, ofInt_nat, mod_lim h1, mod_lim h2]
  exact congrArg (fun x => some (AV.int k x)) (wrap_lim k _ h)
theorem aBin_or (h1 : a < 2 ^ k.bits) (h2 : b < 2 ^ k.bits) (h : a ||| b < kLim k) : aBin P .or t c (.int k (.ofNat a)) (.int k (.ofNat b)) = some (.int k (.ofNat (a ||| b))) := by
  simp only [aBin, ne_eq, not_true_eq_false, if_false, BitVec.toNat_or, ofInt_nat, mod_lim h1, mod_lim h2]
  exact congrArg (fun x => some (AV.int k x)) (wrap_lim k _ h)
theorem aBin_xor (h1 : a < 2 ^ k.bits) (h2 : b < 2 ^ k.bits) (h : a ^^^ b < kLim k) : aBin P .xor t c (.int k (.ofNat a)) (.int k (.ofNat b)) = some (.int k (.ofNat (a ^^^ b))) := by
  simp only [aBin, ne_eq, not_true_eq_false, if_false, BitVec.toNat_xor, ofInt_nat, mod_lim h1, mod_lim h2]
  exact congrArg (fun x => some (AV.int k x)) (wrap_lim k _ h)
theorem aBin_shr {k' : IntKind} (hb : b ≤ k.bits) : aBin P .shr t c (.int k (.ofNat a)) (.int k' (.ofNat b)) = some (.int k (.ofNat (a / 2 ^ b))) := by
  have h0 : ¬ (Int.ofNat b < 0) := by show ¬ ((b : Int) < 0); omega
  have h1 : min (Int.ofNat b).toNat k.bits = b := by show min b k.bits = b; omega
  have h2 : (Int.ofNat a).fdiv (2 ^ b) = Int.ofNat (a / 2 ^ b) := by
    show (a : Int).fdiv (2 ^ b) = ((a / 2 ^ b : Nat) : Int)
    have e : (2 : Int) ^ b = ((2 ^ b : Nat) : Int) := by simp
    rw [e, Int.fdiv_eq_ediv_of_nonneg _ (Int.natCast_nonneg _)]
    rfl
  simp only [aBin, h0, if_false, h1, h2]
theorem aBin_shl {k' : IntKind} (hb : b ≤ k.bits) (h : a * 2 ^ b < kLim k) : aBin P .shl t c (.int k (.ofNat a)) (.int k' (.ofNat b)) = some (.int k (.ofNat (a * 2 ^ b))) := by
  have h0 : ¬ (Int.ofNat b < 0) := by show ¬ ((b : Int) < 0); omega
  have h1 : min (Int.ofNat b).toNat k.bits = b := by show min b k.bits = b; omega
  have h2 : (Int.ofNat a) * 2 ^ b = Int.ofNat (a * 2 ^ b) := by
    show (a : Int) * 2 ^ b = ((a * 2 ^ b : Nat) : Int)
    simp
  simp only [aBin, h0, if_false, h1, h2, wrap_lim k _ h]
theorem aBin_eql : aBin P .eql t c (.int k (.ofNat a)) (.int k (.ofNat b)) = some (.bool (a == b)) := by
  simp only [aBin, ne_eq, not_true_eq_false, if_false]
  congr 2
  show ((a : Int) == (b : Int)) = (a == b)
  rw [Bool.eq_iff_iff]; simp; omega
theorem aBin_neq : aBin P .neq t c (.int k (.ofNat a)) (.int k (.ofNat b)) = some (.bool (a != b)) := by
  simp only [aBin, ne_eq, not_true_eq_false, if_false]
  congr 2
  show ((a : Int) != (b : Int)) = (a != b)
  rw [Bool.eq_iff_iff]; simp; omega
theorem aBin_lss : aBin P .lss t c (.int k (.ofNat a)) (.int k (.ofNat b)) = some (.bool (decide (a < b))) := by
  simp only [aBin, ne_eq, not_true_eq_false, if_false]
  congr 2
  show decide ((a : Int) < (b : Int)) = decide (a < b)
  simp
theorem aBin_leq : aBin P .leq t c (.int k (.ofNat a)) (.int k (.ofNat b)) = some (.bool (decide (a ≤ b))) := by
  simp only [aBin, ne_eq, not_true_eq_false, if_false]
  congr 2
  show decide ((a : Int) ≤ (b : Int)) = decide (a ≤ b)
  simp
theorem aBin_gtr : aBin P .gtr t c (.int k (.ofNat a)) (.int k (.ofNat b)) = some (.bool (decide (b < a))) := by
  simp only [aBin, ne_eq, not_true_eq_false, if_false]
  congr 2
  show decide ((a : Int) > (b : Int)) = decide (b < a)
  simp
theorem aBin_geq : aBin P .geq t c (.int k (.ofNat a)) (.int k (.ofNat b)) = some (.bool (decide (b ≤ a))) := by
  simp only [aBin, ne_eq, not_true_eq_false, if_false]
  congr 2
  show decide ((a : Int) ≥ (b : Int)) = decide (b ≤ a)
  simp
/-- The complement. -/
theorem aUn_xor (hs : k.signed = false) (h : a < 2 ^ k.bits) : aUn .xor (.int k (.ofNat a)) = some (.int k (.ofNat (2 ^ k.bits - 1 - a))) := by
  have e : (BitVec.ofInt k.bits k.max).toNat = 2 ^ k.bits - 1 := by cases k <;> first | rfl | (cases hs; done)
  simp only [aUn, hs, Bool.false_eq_true, if_false, BitVec.toNat_xor, ofInt_nat, mod_lim h, e]
  have e2 : (2 ^ k.bits - 1) ^^^ a = 2 ^ k.bits - 1 - a := by
    apply Nat.eq_of_testBit_eq
    intro i
    have : 2 ^ k.bits - 1 - a = 2 ^ k.bits - (a + 1) := by omega
    rw [this, Nat.testBit_two_pow_sub_succ h, Nat.testBit_xor, Nat.testBit_two_pow_sub_one]
    by_cases hi : i < k.bits
    · simp [hi]
    · have : a.testBit i = false := Nat.testBit_lt_two_pow (Nat.lt_of_lt_of_le h (Nat.pow_le_pow_right (by decide) (by omega)))
      simp [hi, this]
  rw [e2]
  have : kLim k = 2 ^ k.bits := by cases k <;> first | rfl | (cases hs; done)
  exact congrArg (fun x => some (AV.int k x)) (wrap_lim k _ (by rw [this]; omega))
end
end
end Go.Cx

/-
  A REGION WHOSE ORDER IS OPEN, RUN SYMBOLICALLY.
-/
namespace Go.Cx
noncomputable section
open Go Go.Conc
section
variable {P : Program} {Post : Value → World → Prop} {X : Orc} {call : CallF}
theorem SndC.drawn (hm : P.follows .mixedOrders = true) (hX : OrcS P Post X) {id k : Nat} {ops : Array Oper} {ov : Nat → Option Ov} {sg : List Stage} {st st' : AS} {ps : List Prop} (hsg : stagesOf P ops = some sg)
    (h : vDrawn P X (aFunc P X (den P X k)) ops ov sg st = some (st', ps)) (hp : All ps) : SndC P Post (.region id ops true) st .normal st' :=
  drawn_sound hm hX (aFunc_sound hX fun c st e st' h => (den_sound hm hX k c st e st' h).1) hsg (vDrawn_eq h hp)
end

/-! ### rows of bytes that grow -/
def byteV (n : Nat) : AV := .int .u8 (.ofNat n)
/-- A row of these bytes, of which nobody else knows. -/
def Row (h : AH) (sl : AV) (L : List Nat) : Prop :=
  (L = [] ∧ sl = .slice none 0 0 false) ∨ ∃ b c, sl = .slice (some (b, 0)) L.length L.length true ∧ h.t.get b = some (.cells 5 L.length c true false) ∧ c.gets 0 L.length = some (L.map byteV) ∧ b < h.n
def rowBase : AV → Option Nat
  | .slice (some (b, _)) _ _ _ => some b
  | _ => none
/-- What of a heap stays: all but this block. -/
structure Keeps (h h' : AH) (no : Option Nat) : Prop where
  n : h.n ≤ h'.n
  get : ∀ k, k < h.n → no ≠ some k → h'.t.get k = h.t.get k
theorem Keeps.refl (h : AH) (no : Option Nat) : Keeps h h no := ⟨Nat.le_refl _, fun _ _ _ => rfl⟩
theorem gets_ofList {α : Type} (l : List α) : ∀ (o n : Nat), o + n ≤ l.length → (T.ofList l).gets o n = some ((l.drop o).take n)
  | o, 0, _ => by simp [T.gets]
  | o, n + 1, h => by
    simp only [T.gets, T.get_ofList]
    have ho : o < l.length := by omega
    rw [List.getElem?_eq_getElem ho]
    simp only [gets_ofList l (o + 1) n (by omega), Option.map_some]
    rw [List.drop_eq_getElem_cons ho, List.take_succ_cons]
theorem gets_all {α : Type} (l : List α) : (T.ofList l).gets 0 l.length = some l := by
  rw [gets_ofList l 0 l.length (by omega)]
  simp
theorem byteV_scalar (L : List Nat) : (L.map byteV).all AV.scalar = true := by
  rw [List.all_eq_true]
  intro x hx
  obtain ⟨n, _, rfl⟩ := List.mem_map.1 hx
  rfl
end
end Go.Cx

/-
  A REGION WHOSE ORDER IS OPEN, WITH ONE CALL THAT IS TOLD.
-/
namespace Go.Cx
noncomputable section
open Go Go.Conc

structure Told where
  c : Nat
  f : FuncId
  args : List AV
  v : AV
  L : AH → Bool
  g : AH → AH
def noCall : CallF := fun _ _ _ _ => none
open Classical in
noncomputable def Told.call (t : Told) : CallF := fun f args h s => if f = t.f ∧ args = t.args ∧ t.L h = true ∧ s = none then some (t.v, t.g h, none) else none

section
variable {P : Program} {Post : Value → World → Prop} {X : Orc}
theorem Told.callS (t : Told) (hs : ∀ h, t.L h = true → SndF P Post t.f t.args h none t.v (t.g h) none) : CallS P Post t.call := by
  intro f args h s v h' s' _ hc
  unfold Told.call at hc
  split at hc
  · rename_i h1
    obtain ⟨rfl, rfl, h3, rfl⟩ := h1
    cases hc
    exact hs h h3
  · cases hc
theorem one_told (t : Told) {ops : Array Oper} {st st' : AS} {i : Nat} (h : aOne P X noCall ops st i = some st') : aOne P X t.call ops st i = some st' := by
  unfold aOne at h ⊢
  cases ho : ops[i]? with
  | none => simp [ho] at h
  | some o =>
    simp only [ho] at h ⊢
    by_cases hw : aWanted ops o st.t = true
    · rw [if_pos hw] at h ⊢
      cases ha : aop P (aRho P.globals.size st.t) o st.h with
      | none => simpa only [ha] using h
      | some r =>
        obtain ⟨r, h'⟩ := r
        cases r with
        | call f args => simp [ha, noCall] at h
        | _ => simpa only [ha] using h
    · rw [if_neg hw] at h ⊢
      exact h
theorem text_told (t : Told) {ops : Array Oper} : ∀ {l : List Nat} {st st' : AS}, aText P X noCall ops l st = some st' → aText P X t.call ops l st = some st'
  | [], _, _, h => h
  | i :: l, st, st', h => by
    simp only [aText] at h ⊢
    split at h
    · rename_i st1 h1
      rw [one_told t h1]
      exact text_told t h
    · cases h

variable (P X)
def wOne (ops : Array Oper) (t : Told) (c : Nat) (st : AS) : Option (AS × List Prop) :=
  match ops[c]? with
  | none => none
  | some o => match aWanted ops o st.t with
    | false => none
    | true => match st.s with
      | some _ => none
      | none => match t.L st.h with
        | false => none
        | true => match AS.put { st with h := t.g st.h } o.dst t.v with
          | none => none
          | some st2 => some (st2, [∀ h, aop P (aRho P.globals.size st.t) o h = some (.call t.f t.args, h)])
def wMid (ops : Array Oper) (ov : Nat → Option Ov) (t : Told) (c : Nat) (st : AS) : Option (AS × List Prop) :=
  match Nat.beq c t.c with
  | true => wOne P ops t c st
  | false => vText P X noCall ops ov [c] st
def wDrawn (ops : Array Oper) (ov : Nat → Option Ov) (t : Told) : List Stage → AS → Option (AS × List Prop)
  | [], _ => none
  | (fl, none) :: _, st => vText P X noCall ops ov fl st
  | (fl, some (c, again)) :: l, st => match vText P X noCall ops ov fl st with
    | none => none
    | some (st1, ps) => match wMid P X ops ov t c st1 with
      | none => none
      | some (st2, qs) => match wDrawn ops ov t l st2 with
        | none => none
        | some (st3, rs) => match again.filter (needs ops) with
          | [] => some (st3, ps ++ (qs ++ rs))
          | ag => some (st3, ps ++ (qs ++ ((ag.all (aStill P ops st2) = true) :: rs)))
variable {P X}
theorem wOne_eq {ops : Array Oper} {t : Told} {c : Nat} {st st2 : AS} {qs : List Prop} (h : wOne P ops t c st = some (st2, qs)) (hp : All qs) : aOne P X t.call ops st c = some st2 := by
  unfold wOne at h
  split at h
  · cases h
  · rename_i o ho
    split at h
    · cases h
    · rename_i hw
      split at h
      · cases h
      · rename_i hs
        split at h
        · cases h
        · rename_i hL
          split at h
          · cases h
          · rename_i st3 hput
            simp only [Option.some.injEq, Prod.mk.injEq] at h
            obtain ⟨rfl, rfl⟩ := h
            have ha := hp.1 st.h
            unfold aOne
            simp only [ho, hw, if_true, ha]
            have hc : t.call t.f t.args st.h st.s = some (t.v, t.g st.h, none) := by
              unfold Told.call
              rw [if_pos ⟨rfl, rfl, hL, hs⟩]
            rw [hc]
            obtain ⟨a, b, d, s⟩ := st
            simp only at hs
            subst hs
            exact hput
theorem wMid_eq {ops : Array Oper} {ov : Nat → Option Ov} {t : Told} {c : Nat} {st st2 : AS} {qs : List Prop} (h : wMid P X ops ov t c st = some (st2, qs)) (hp : All qs) : aOne P X t.call ops st c = some st2 := by
  unfold wMid at h
  split at h
  · exact wOne_eq h hp
  · have := vText_eq h hp
    rw [aText_one] at this
    exact one_told t this
theorem wDrawn_eq {ops : Array Oper} {ov : Nat → Option Ov} {t : Told} : ∀ {l : List Stage} {st st' : AS} {ps : List Prop}, wDrawn P X ops ov t l st = some (st', ps) → All ps → aDrawn P X t.call ops l st = some st'
  | [], st, st', ps, h, _ => by simp [wDrawn] at h
  | (fl, none) :: _, st, st', ps, h, hp => by
    simp only [wDrawn] at h
    simp only [aDrawn]
    exact text_told t (vText_eq h hp)
  | (fl, some (c, again)) :: l, st, st', ps, h, hp => by
    simp only [wDrawn] at h
    simp only [aDrawn]
    split at h
    · cases h
    · rename_i st1 ps1 e1
      split at h
      · cases h
      · rename_i st2 qs e2
        split at h
        · cases h
        · rename_i st3 rs e3
          have hn := needs_all P ops st2 again
          split at h
          · rename_i hf
            rw [hf] at hn
            simp only [Option.some.injEq, Prod.mk.injEq] at h
            obtain ⟨rfl, rfl⟩ := h
            obtain ⟨p1, p2⟩ := All.app hp
            obtain ⟨p3, p4⟩ := All.app p2
            rw [text_told t (vText_eq e1 p1)]
            have := wMid_eq e2 p3
            simp only [List.all_nil] at hn
            simp only [this, ← hn, if_true]
            exact wDrawn_eq e3 p4
          · simp only [Option.some.injEq, Prod.mk.injEq] at h
            obtain ⟨rfl, rfl⟩ := h
            obtain ⟨p1, p2⟩ := All.app hp
            obtain ⟨p3, p4⟩ := All.app p2
            rw [text_told t (vText_eq e1 p1)]
            have := wMid_eq e2 p3
            have p5 := p4.1
            rw [hn] at p5
            simp only [this, p5, if_true]
            exact wDrawn_eq e3 p4.2
theorem wDrawn_sound (hm : P.follows .mixedOrders = true) (hX : OrcS P Post X) {ops : Array Oper} {ov : Nat → Option Ov} {t : Told} {sg : List Stage} {id : Nat} {st st' : AS} {ps : List Prop} (h1 : stagesOf P ops = some sg) (h2 : wDrawn P X ops ov t sg st = some (st', ps)) (hp : All ps)
    (hs : ∀ h, t.L h = true → SndF P Post t.f t.args h none t.v (t.g h) none) : SndC P Post (.region id ops true) st .normal st' :=
  drawn_sound hm hX (t.callS hs) h1 (wDrawn_eq h2 hp)
end
end
end Go.Cx

/-
  THE START: from what a function's body does over lent blocks to the whole run.
-/
namespace Go.Cx
noncomputable section
open Go Go.Conc

section
variable {P : Program} {Post : Value → World → Prop} {B : Nat} {w₀ : World} {K : List Nat} {env : Env} {S : Option (Nat × List Value)} {w : World}

theorem stepG_last {fn : Func} {todo : List Item} {a : Act} {b : Frame} {v : Value} (hn : b.kind = .normal) (hd : a.defers = []) (hf : P.funcs[b.fn]? = some fn)
    (hr : (results fn a.tmps).run P w = .ok v w) (hi : P.inits.idxOf? b.fn = none) :
    stepG P true (G { b.at a todo with mode := .returning } []) w = .ended (.done v) w (seen P b.fn ((results fn a.tmps).events P w #[])) := by
  simp [G, stepG, unwind, doReturn, Frame.at, hn, hd, hf, hr, hi, GStep.after]

/-- What a function's body does. -/
def BodyS (P : Program) (Post : Value → World → Prop) (fn : Func) (c : Code) (args : List AV) (h : AH) (v : AV) : Prop :=
  ∃ e st, SndC P Post c { t := T.ofList args, n := args.length + (fn.ntmps - args.length), h, s := none } e st ∧ (e = .ret ∨ e = .normal) ∧ aResults P fn st = some v ∧ st.s = none

theorem BodyS.runs {f : FuncId} {fn : Func} {c : Code} {args : List AV} {h : AH} {v : AV} {Args : Array Value} (hb : BodyS P Post fn c args h v) (hf : P.funcs[f]? = some fn) (hc : fn.body = some c) (hi : P.inits.idxOf? f = none)
    (ha : VRs env args Args.toList) (hH : HS P B w₀ K env h none none w)
    (hp : ∀ env' h' V w', env.le env' → VR env' v V → HS P B w₀ K env' h' none none w' → Post V w') : Runs P Post none (G (Frame.enter P f Args .normal) []) w := by
  obtain ⟨e, st, hd, he, hr, hs⟩ := hb
  rw [enter_at Args hf hc]
  have hlen : args.length = Args.size := by rw [ha.length]; simp
  have hT0 : TR env noD (T.ofList args) (args.length + (fn.ntmps - args.length)) { tmps := Args ++ Array.replicate (fn.ntmps - Args.size) undef, defers := [] } := by
    refine ⟨rfl, by simp [hlen], fun t ht _ => ?_, fun t ht => ?_⟩
    · rw [T.get_ofList]
      by_cases e : t < args.length
      · obtain ⟨u, U, h1, h2, h3⟩ := vrs_get' ha e
        rw [h1]
        have : (Args ++ Array.replicate (fn.ntmps - Args.size) undef).getD t undef = U := by
          rw [Array.getD_eq_getD_getElem?, Array.getElem?_append, if_pos (by rw [← hlen]; exact e)]
          rw [Array.getElem?_toList] at h2
          rw [h2]; rfl
        rw [this]
        exact h3
      · rw [List.getElem?_eq_none (Nat.le_of_not_lt e)]
        have : (Args ++ Array.replicate (fn.ntmps - Args.size) undef).getD t undef = undef := by
          rw [Array.getD_eq_getD_getElem?, Array.getElem?_append, if_neg (by rw [← hlen]; exact e), Array.getElem?_replicate]
          split <;> rfl
        rw [this]
        exact vr_undef env
    · rw [T.get_ofList, List.getElem?_eq_none]
      exact Nat.le_trans (Nat.le_add_right _ _) ht
  refine hd B w₀ K env _ none w (base f) [] [] (by simp [base]) hT0 hH fun env' a' S' w' hle hT' hH' => ?_
  have hS : S' = none := by
    have := hH'.snd
    rw [hs] at this
    cases S' with
    | none => rfl
    | some x => exact this.elim
  subst hS
  rw [hs] at hH'
  have leave : ∀ todo, Runs P Post none (G { (base f).at a' todo with mode := .returning } []) w' := fun todo => by
    refine .fin rfl fun w₁ h₁ => ?_
    have hH₁ := hH'.rely h₁
    obtain ⟨V, hdo, hv⟩ := ret_sound hT' hH₁ hr
    exact ⟨_, _, stepG_last rfl hT'.defers hf hdo.1 hi, own_same' rfl (fun e he => by
      rcases hdo.2 _ _ (mem_seen he) with h2 | h2
      · simp at h2
      · exact h2), hp env' _ V w₁ hle hv hH₁⟩
  rcases he with rfl | rfl
  · exact leave
  · exact .ctl rfl (fun w₁ => stepG_end) (leave [])
end
end
end Go.Cx

