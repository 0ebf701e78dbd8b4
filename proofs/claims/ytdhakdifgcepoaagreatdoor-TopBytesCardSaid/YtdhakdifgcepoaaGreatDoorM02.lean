/-
  MAPS, ASSERTIONS, BUILT VALUES, LENGTHS. ..
-/
import Derived.Test.YtdhakdifgcepoaaGreatDoorM01
/-
  MAPS, ASSERTIONS, BUILT VALUES, LENGTHS.
-/
namespace Go.Cx
noncomputable section
open Go Go.Conc
section
variable {P : Program} {B : Nat} {w₀ : World} {K : List Nat} {env : Env} {h h' : AH} {s : Option (Nat × List AV)} {S : Option (Nat × List Value)} {w : World} {ρ : Operand → Option AV} {a : Act} {v : AV}

/-! ### keys -/
theorem ret_forUnit {α : Type} (F : α → Unit → Sem (ForInStep Unit)) : ∀ (l : List α), (∀ x ∈ l, Ret P (F x ()) (.yield ())) → Ret P (forIn l () F) ()
  | [], _ => by simp only [List.forIn_nil]; exact .pure _
  | x :: l, hf => by
    rw [List.forIn_cons]
    exact .bind (hf x (by simp)) (ret_forUnit F l fun y hy => hf y (by simp [hy]))

theorem aKey_ret (e : Bool) : ∀ (d D : Nat) (t : TypeId) (x : AV) (X : Value), d ≤ D → aKey P d t x = true → VR env x X → Ret P (Instr.checkKey e D t X) ()
  | 0, _, _, _, _, _, h, _ => by simp [aKey] at h
  | d + 1, 0, _, _, _, hd, _, _ => by omega
  | d + 1, D + 1, t, x, X, hd, h, hx => by
    simp only [aKey] at h
    have ih := aKey_ret e d D
    split at h
    · rename_i hu; rw [hx.inj_int]; exact .bind (ret_und hu) (.pure _)
    · rename_i hu; rw [hx.inj_str]; exact .bind (ret_und hu) (.pure _)
    · rename_i len elem cs hu
      split at h
      · rename_i n hn
        obtain ⟨L, rfl, hl, hs⟩ := hx.agg_inv
        simp only [Instr.checkKey]
        refine .bind (ret_und hu) ?_
        simp only []
        rw [Std.Legacy.Range.forIn_eq_forIn_range']
        simp only [Std.Legacy.Range.size, Nat.sub_zero, Nat.add_sub_cancel, Nat.div_one]
        rw [← List.range_eq_range']
        refine .bind (ret_forUnit _ _ fun i hi => ?_) (.pure _)
        have hi' := List.all_eq_true.1 h i hi
        cases hp : aPart P elem cs (i * n) with
        | none => simp [hp] at hi'
        | some y =>
          simp only [hp] at hi'
          obtain ⟨Y, hY, hy⟩ := ret_part hp hl hs
          exact .bind (ret_size hn) (.bind hY (.bind (ih _ _ _ (by omega) hi' hy) (.pure _)))
      · cases h
    · rename_i fields cs hu
      obtain ⟨L, rfl, hl, hs⟩ := hx.agg_inv
      simp only [Instr.checkKey]
      refine .bind (ret_und hu) ?_
      simp only []
      rw [← Array.forIn_toList]
      refine .bind (ret_forUnit _ _ fun f hf => ?_) (.pure _)
      have hi' := List.all_eq_true.1 h f hf
      by_cases hne : f.name ≠ "_"
      · rw [if_pos hne] at hi' ⊢
        cases hp : aPart P f.type cs f.offset with
        | none => simp [hp] at hi'
        | some y =>
          simp only [hp] at hi'
          obtain ⟨Y, hY, hy⟩ := ret_part hp hl hs
          exact .bind hY (.bind (ih _ _ _ (by omega) hi' hy) (.pure _))
      · rw [if_neg hne]
        exact .pure _
    · cases h

/-- The entries of a map. -/
def ER (env : Env) (es : List (AV × AV × Nat)) (ES : List MapEntry) : Prop := ES.length = es.length ∧ ∀ (i : Nat) (k v : AV) (bn : Nat), es[i]? = some (k, v, bn) → ∃ E : MapEntry, ES[i]? = some E ∧ VR env k E.key ∧ VR env v E.val ∧ E.born = bn
theorem ER.tail {x : AV × AV × Nat} {es : List (AV × AV × Nat)} {E : MapEntry} {ES : List MapEntry} (h : ER env (x :: es) (E :: ES)) : ER env es ES :=
  ⟨by simpa using h.1, fun i k v bn hi => by simpa using h.2 (i + 1) k v bn (by simpa using hi)⟩
theorem ER.head {k v : AV} {bn : Nat} {es : List (AV × AV × Nat)} {E : MapEntry} {ES : List MapEntry} (h : ER env ((k, v, bn) :: es) (E :: ES)) : VR env k E.key ∧ VR env v E.val ∧ E.born = bn := by
  obtain ⟨E', h1, h2⟩ := h.2 0 k v bn rfl
  simp at h1; subst h1; exact h2

/-- What is found. -/
def FR (env : Env) (k : AV) (es : List (AV × AV × Nat)) : Option (Nat × AV × Nat) → Nat → Option (Nat × Value) → Prop
  | none, _, r => r = none
  | some (i, v, bn), i0, r => ∃ V, r = some (i, V) ∧ VR env v V ∧ i0 ≤ i ∧ ∃ k', es[i - i0]? = some (k', v, bn) ∧ aSame k' k = true

theorem sameNow_eq {d : Nat} {t : TypeId} {kind : TypeDesc} {k k' : AV} {KV KV' : Value} {b b' : Bool} (hu : P.underlying t = some kind) (hk : VR env k KV) (hk' : VR env k' KV') (h : aEq P (d + 1) t k k' = some b) (h' : Instr.sameNow kind KV KV' = some b') : b = b' := by
  simp only [aEq, hu] at h
  unfold Instr.sameNow at h'
  split at h'
  · cases hk; cases hk'
    simp only at h
    split at h'
    · rename_i e; subst e; simp at h h'; rw [← h, ← h']
    · cases h'
  · generalize hA : (Value.string _) = A at hk
    generalize hB : (Value.string _) = B at hk'
    cases hk <;> simp at hA
    cases hk' <;> simp at hB
    subst hA; subst hB
    simp at h h'
    rw [← h, ← h']
    simpa using (beq_str _ _).symm
  · cases hk; cases hk'
    simp at h h'; rw [← h, ← h']
  · cases h'

theorem aFind_asking {kt : TypeId} {k : AV} {KV : Value} (hk : VR env k KV) : ∀ (es : List (AV × AV × Nat)) (ES : List MapEntry) (i : Nat) (r : Option (Nat × AV × Nat)), ER env es ES → aFind P kt k es i = some r →
    ∃ R, Ret P (Instr.findAsking kt KV ES i) R ∧ FR env k es r i R
  | [], ES, i, r, he, hf => by
    have : ES = [] := by have := he.1; simpa using this
    subst this
    simp only [aFind, Option.some.injEq] at hf
    subst hf
    exact ⟨none, .pure _, rfl⟩
  | (k', v, bn) :: es, [], i, r, he, hf => by have := he.1; simp at this
  | (k', v, bn) :: es, E :: ES, i, r, he, hf => by
    simp only [aFind] at hf
    obtain ⟨h1, h2, h3⟩ := he.head
    cases hq : aEq P eqDepth kt k k' with
    | none => simp [hq] at hf
    | some b =>
      have hret := aEq_ret eqDepth Op.maxDepth kt _ _ _ _ _ (by decide) hq hk h1
      simp only [Instr.findAsking]
      cases b with
      | true =>
        simp only [hq] at hf
        split at hf
        · rename_i hsame
          simp only [Option.some.injEq] at hf; subst hf
          exact ⟨some (i, E.val), .bind hret (.pure _), E.val, rfl, h2, Nat.le_refl _, k', by simp, hsame⟩
        · cases hf
      | false =>
        simp only [hq] at hf
        obtain ⟨R, hR, hr⟩ := aFind_asking hk es ES (i + 1) r he.tail hf
        refine ⟨R, .bind hret ?_, ?_⟩
        · simpa using hR
        · cases r with
          | none => exact hr
          | some x =>
            obtain ⟨j, v', bn'⟩ := x
            obtain ⟨V, e1, e2, e3, k'', e4, e5⟩ := hr
            refine ⟨V, e1, e2, by omega, k'', ?_, e5⟩
            have : j - i = (j - (i + 1)) + 1 := by omega
            rw [this, List.getElem?_cons_succ]
            exact e4
theorem aFind_now {kt : TypeId} {kind : TypeDesc} (hu : P.underlying kt = some kind) {k : AV} {KV : Value} (hk : VR env k KV) : ∀ (es : List (AV × AV × Nat)) (ES : List MapEntry) (i : Nat) (r : Option (Nat × AV × Nat)) (R : Option (Nat × Value)), ER env es ES → aFind P kt k es i = some r →
    Instr.findNow kind KV ES i = some R → FR env k es r i R
  | [], ES, i, r, R, he, hf, hn => by
    have : ES = [] := by have := he.1; simpa using this
    subst this
    simp only [aFind, Option.some.injEq] at hf
    subst hf
    simp only [Instr.findNow, Option.some.injEq] at hn
    exact hn.symm
  | (k', v, bn) :: es, [], i, r, R, he, hf, hn => by have := he.1; simp at this
  | (k', v, bn) :: es, E :: ES, i, r, R, he, hf, hn => by
    simp only [aFind] at hf
    obtain ⟨h1, h2, h3⟩ := he.head
    cases hq : aEq P eqDepth kt k k' with
    | none => simp [hq] at hf
    | some b =>
      simp only [Instr.findNow] at hn
      cases hs : Instr.sameNow kind KV E.key with
      | none => simp [hs] at hn
      | some b' =>
        have := sameNow_eq (d := 39) hu hk h1 hq hs
        subst this
        cases b with
        | true =>
          simp only [hq] at hf
          simp only [hs, Option.some.injEq] at hn
          split at hf
          · rename_i hsame
            simp only [Option.some.injEq] at hf; subst hf
            exact ⟨E.val, hn.symm, h2, Nat.le_refl _, k', by simp, hsame⟩
          · cases hf
        | false =>
          simp only [hq] at hf
          simp only [hs] at hn
          have hr := aFind_now hu hk es ES (i + 1) r R he.tail hf hn
          cases r with
          | none => exact hr
          | some x =>
            obtain ⟨j, v', bn'⟩ := x
            obtain ⟨V, e1, e2, e3, k'', e4, e5⟩ := hr
            refine ⟨V, e1, e2, by omega, k'', ?_, e5⟩
            have : j - i = (j - (i + 1)) + 1 := by omega
            rw [this, List.getElem?_cons_succ]
            exact e4

theorem ret_findKey {kt : TypeId} {k : AV} {KV : Value} {es : List (AV × AV × Nat)} {ES : Array MapEntry} {r : Option (Nat × AV × Nat)} (hk : VR env k KV) (hkey : aKey P eqDepth kt k = true) (he : ER env es ES.toList) (hf : aFind P kt k es 0 = some r) :
    ∃ R, Ret P (Instr.findKey kt KV ES.toList) R ∧ FR env k es r 0 R := by
  have hu : ∃ kind, P.underlying kt = some kind := by
    cases hu : P.underlying kt with
    | none =>
      have : aKey P (39 + 1) kt k = true := hkey
      simp [aKey, hu] at this
    | some kind => exact ⟨kind, rfl⟩
  obtain ⟨kind, hu⟩ := hu
  cases hn : Instr.findNow kind KV ES.toList 0 with
  | some R =>
    refine ⟨R, .bind (ret_und hu) ?_, aFind_now hu hk es _ 0 r R he hf hn⟩
    simp only [hn]
    exact .pure _
  | none =>
    obtain ⟨R, hR, hr⟩ := aFind_asking hk es _ 0 r he hf
    refine ⟨R, .bind (ret_und hu) ?_, hr⟩
    simp only [hn]
    exact hR

/-- Looking at a map. -/
theorem HS.at_map (hs : HS P B w₀ K env h s S w) {b : Nat} {es : List (AV × AV × Nat)} {clock : Nat} {V : Value} (hb : h.t.get b = some (.map es clock)) (hv : VR env (.map (some b)) V) :
    ∃ c ES, env.blk b = .at c 0 ∧ V = .map (some c) ∧ B ≤ c ∧ w.heap[c]? = some (.map ES clock) ∧ ER env es ES.toList := by
  cases hv with
  | map h' =>
    obtain ⟨h0, _, ES, h1, h2, h3⟩ := hs.rel _ _ _ _ hb h'
    exact ⟨_, ES, h', rfl, h0, h1, by simpa using h2, fun i k v bn hi => by simpa using h3 i k v bn hi⟩
  | mapD h' => rw [hs.dead _ h'] at hb; cases hb

theorem does_getObj_map {c : Nat} {ES : Array MapEntry} {clock : Nat} (hc : w.heap[c]? = some (.map ES clock)) : Does P (getObj c) w (.map ES clock) w :=
  .of_calm (by simp [getObj, Sem.run, hc]) (calm_getObj c)

theorem does_lookup (hs : HS P B w₀ K env h s S w) {t : TypeId} {x k v : AV} {ok : Bool} {X KV : Value} (hh : aLookup P h t x k ok = some v) (hx : VR env x X) (hk : VR env k KV) :
    ∃ V, Does P (Instr.lookup t X KV ok) w V w ∧ VR env v V := by
  unfold aLookup at hh
  split at hh
  · rename_i kt et hu
    -- the entries
    have hes : ∀ es, aEntries h x = some es → ∃ ES : Array MapEntry, ER env es ES.toList ∧ ∀ V, Does P (do
          Instr.checkKey ES.isEmpty 10000 kt KV
          let (v, ok') ← match ← Instr.findKey kt KV ES.toList with
            | some (_, v) => Pure.pure (v, true)
            | none => Pure.pure (← zeroValue et, false)
          Pure.pure (if ok then .tuple #[v, .bool ok'] else v) : Sem Value) w V w → Does P (Instr.lookup t X KV ok) w V w := by
      intro es he
      unfold aEntries at he
      split at he
      · simp only [Option.some.injEq] at he; subst he
        cases hx
        refine ⟨#[], ⟨rfl, fun i k v bn hi => by simp at hi⟩, fun V hV => .bind ((ret_und hu).does w) ?_⟩
        simp only []
        exact .bind (.pure _ _) hV
      · rename_i b
        split at he
        · rename_i es' clock hb
          simp only [Option.some.injEq] at he; subst he
          obtain ⟨c, ES, h1, rfl, h2, h3, h4⟩ := hs.at_map hb hx
          refine ⟨ES, h4, fun V hV => .bind ((ret_und hu).does w) ?_⟩
          simp only []
          exact .bind (does_getObj_map h3) (.bind (.pure _ _) hV)
        · cases he
      · cases he
    split at hh
    · cases hh
    · rename_i es he
      obtain ⟨ES, hER, hdo⟩ := hes es he
      split at hh
      · rename_i hkey
        split at hh
        · rename_i i v' bn hf
          simp only [Option.some.injEq] at hh
          obtain ⟨R, hR, V, rfl, hv, -⟩ := ret_findKey hk hkey hER hf
          refine ⟨if ok then .tuple #[V, .bool true] else V, ?_, ?_⟩
          · refine hdo _ (.bind ((aKey_ret _ eqDepth 10000 kt k KV (by decide) hkey hk).does w) (.bind (hR.does w) ?_))
            simp only []
            exact .bind (.pure _ _) (.pure _ _)
          · subst hh
            cases ok with
            | true => exact .tuple (.cons hv (.cons (.bool true) .nil))
            | false => exact hv
        · rename_i hf
          obtain ⟨z, hz, rfl⟩ := Option.map_eq_some_iff.1 hh
          obtain ⟨R, hR, hr⟩ := ret_findKey hk hkey hER hf
          have hr : R = none := hr
          subst hr
          obtain ⟨Z, hZ, hzz⟩ := ret_zero hz
          refine ⟨if ok then .tuple #[Z, .bool false] else Z, ?_, ?_⟩
          · refine hdo _ (.bind ((aKey_ret _ eqDepth 10000 kt k KV (by decide) hkey hk).does w) (.bind (hR.does w) ?_))
            simp only []
            exact .bind (hZ.does w) (.bind (.pure _ _) (.pure _ _))
          · cases ok with
            | true => exact .tuple (.cons (hzz env) (.cons (.bool false) .nil))
            | false => exact hzz env
        · cases hh
      · cases hh
  · cases hh

/-! ### other -/
theorem least_some : ∀ {l : List String}, l ≠ [] → (Instr.least l).isSome = true
  | [], h => absurd rfl h
  | _ :: _, _ => rfl
theorem missing_some {want : Array (String × TypeId)} {got : Array Method} (h : (want.toList.any fun x => !(got.toList.any fun m => m.name == x.1 && m.sig == x.2)) = true) : (Instr.missingMethod want got).isSome = true := by
  simp only [List.any_eq_true] at h
  obtain ⟨x, hx, hn⟩ := h
  unfold Instr.missingMethod
  have hmem : x.1 ∈ (want.toList.filter fun (name, sig) => !got.any fun m => m.name == name && m.sig == sig).map (·.1) := by
    refine List.mem_map.2 ⟨x, List.mem_filter.2 ⟨hx, ?_⟩, rfl⟩
    simp only [← Array.any_toList]
    exact hn
  generalize (want.toList.filter fun (name, sig) => !got.any fun m => m.name == name && m.sig == sig).map (·.1) = l at hmem
  simp only [List.partition_eq_filter_filter]
  by_cases hd : x.1.contains (Char.ofNat (nat_lit 46)) = true
  · have h1 : (l.filter (fun x => x.contains (Char.ofNat (nat_lit 46)))) ≠ [] := List.ne_nil_of_mem (List.mem_filter.2 ⟨hmem, hd⟩)
    have h2 := least_some (l := (l.filter (fun x => x.contains (Char.ofNat (nat_lit 46)))).map fun id => (id.splitOn ".").getLastD id) (by simpa using h1)
    cases he : Instr.least (l.filter (not ∘ fun x => x.contains (Char.ofNat (nat_lit 46)))) with
    | some a => rfl
    | none => simpa using h2
  · have h1 : (l.filter (not ∘ fun x => x.contains (Char.ofNat (nat_lit 46)))) ≠ [] := List.ne_nil_of_mem (List.mem_filter.2 ⟨hmem, by rw [Function.comp_apply]; exact (by cases hh : x.1.contains (Char.ofNat (nat_lit 46)) with | true => exact absurd hh hd | false => rfl)⟩)
    have h2 := least_some h1
    cases he : Instr.least (l.filter (not ∘ fun x => x.contains (Char.ofNat (nat_lit 46)))) with
    | some a => rfl
    | none => rw [he] at h2; cases h2
theorem ret_typeAssert {x : AV} {X : Value} {xt t : TypeId} {ok : Bool} {r : ARes × AH}
    (hh : (match some x, P.underlying t with
    | some (.iface u _), some (.interface want) => if ok && aLacks P want u then (aZero P t).map fun z => (.val (.tuple [z, .bool false]), h) else none
    | some _, some (.interface _) => none
    | some (.iface u v), some _ => if u = t then some (.val (if ok then .tuple [v, .bool true] else v), h)
      else if ok then (aZero P t).map fun z => (.val (.tuple [z, .bool false]), h) else none
    | some .nilIface, some _ => if ok then (aZero P t).map fun z => (.val (.tuple [z, .bool false]), h) else none
    | _, _ => none : Option (ARes × AH)) = some r) (hx : VR env x X) : ∃ v V, r = (.val v, h) ∧ Ret P (Instr.typeAssert X xt t ok) V ∧ VR env v V := by
  split at hh
  · rename_i u v want heq hu
    cases heq
    split at hh
    · rename_i hok
      simp only [Bool.and_eq_true] at hok
      obtain ⟨hok, hl⟩ := hok
      obtain ⟨z, hz, rfl⟩ := Option.map_eq_some_iff.1 hh
      obtain ⟨Z, hZ, hzz⟩ := ret_zero hz
      cases hx with
      | @iface _ _ V hv =>
        unfold aLacks at hl
        split at hl
        · rename_i i hi
          refine ⟨_, .tuple #[Z, .bool false], rfl, .bind (ret_und hu) ?_, .tuple (.cons (hzz env) (.cons (.bool false) .nil))⟩
          refine .bind (ret_info hi) ?_
          cases hm : Instr.missingMethod want i.methods with
          | none => have := missing_some hl; simp [hm] at this
          | some m =>
            simp only [hok, if_true]
            exact .bind hZ (.pure _)
        · cases hl
    · cases hh
  · cases hh
  · rename_i u v d hne heq hu
    cases heq
    cases hx with
    | @iface _ _ V hv =>
      have hty : ∀ R, Ret P (if u = t then (Pure.pure (if ok then .tuple #[V, .bool true] else V) : Sem Value) else (do if ok then Pure.pure (.tuple #[← zeroValue t, .bool false]) else runtimePanic (.typeAssertion (some xt) (some u) t ""))) R → Ret P (Instr.typeAssert (.iface u V) xt t ok) R := by
        intro R hR
        refine .bind (ret_und hu) ?_
        cases d <;> first
          | exact hR
          | exact (hne _ rfl).elim
      split at hh
      · rename_i e
        simp only [Option.some.injEq] at hh; subst hh
        refine ⟨_, _, rfl, hty _ (by rw [if_pos e]; exact .pure _), ?_⟩
        cases ok with
        | true => exact .tuple (.cons hv (.cons (.bool true) .nil))
        | false => exact hv
      · rename_i e
        split at hh
        · rename_i hok
          obtain ⟨z, hz, rfl⟩ := Option.map_eq_some_iff.1 hh
          obtain ⟨Z, hZ, hzz⟩ := ret_zero hz
          refine ⟨_, _, rfl, hty _ (by rw [if_neg e, if_pos hok]; exact .bind hZ (.pure _)), .tuple (.cons (hzz env) (.cons (.bool false) .nil))⟩
        · cases hh
  · rename_i d hne heq hu
    cases heq
    cases hx
    split at hh
    · rename_i hok
      obtain ⟨z, hz, rfl⟩ := Option.map_eq_some_iff.1 hh
      obtain ⟨Z, hZ, hzz⟩ := ret_zero hz
      refine ⟨_, .tuple #[Z, .bool false], rfl, .bind (ret_und hu) ?_, .tuple (.cons (hzz env) (.cons (.bool false) .nil))⟩
      cases d <;> first
        | exact (hne _ rfl).elim
        | (simp only [hok, if_true]; exact .bind hZ (.pure _))
    · cases hh
  · cases hh

theorem ret_extract {l : List AV} {v : AV} {X : Value} {i : Nat} (hh : l[i]? = some v) (hx : VR env (.tuple l) X) : ∃ V, Ret P (Instr.extract X i) V ∧ VR env v V := by
  cases hx with
  | tuple hl =>
    obtain ⟨V, hV, hv⟩ := hl.get hh
    refine ⟨V, ?_, hv⟩
    simp only [Instr.extract, List.getElem?_toArray, hV]
    exact .pure _
end
end
end Go.Cx

/-
  BUILT VALUES, LENGTHS, SMALLEST AND GREATEST; WHAT A BUILTIN CALL RESOLVES TO.
-/
namespace Go.Cx
noncomputable section
open Go Go.Conc
section
variable {P : Program} {B : Nat} {w₀ : World} {K : List Nat} {env : Env} {h h' : AH} {s : Option (Nat × List AV)} {S : Option (Nat × List Value)} {w : World} {ρ : Operand → Option AV} {a : Act} {v : AV}

theorem evalAll_vrs (hev : EvR env ρ a) : ∀ {l : List Operand} {m : List AV}, evalAll ρ l = some m → VRs env m (l.map a.eval)
  | [], m, h => by simp [evalAll] at h; subst h; exact .nil
  | x :: l, m, h => by
    simp only [evalAll] at h
    split at h
    · rename_i u m' hu hm
      simp only [Option.some.injEq] at h; subst h
      exact .cons (hev x u hu) (evalAll_vrs hev hm)
    · cases h
def PR (env : Env) : List (Nat × AV) → List (Nat × Value) → Prop
  | [], [] => True
  | (i, v) :: l, (j, V) :: L => i = j ∧ VR env v V ∧ PR env l L
  | _, _ => False
theorem evalParts_pr (hev : EvR env ρ a) : ∀ {l : List (Nat × Operand)} {m : List (Nat × AV)}, evalParts ρ l = some m → PR env m (l.map fun (i, x) => (i, a.eval x))
  | [], m, h => by simp [evalParts] at h; subst h; trivial
  | (i, x) :: l, m, h => by
    simp only [evalParts] at h
    split at h
    · rename_i u m' hu hm
      simp only [Option.some.injEq] at h; subst h
      exact ⟨rfl, hev x u hu, evalParts_pr hev hm⟩
    · cases h
theorem evalOpt_or (hev : EvR env ρ a) {x : Option Operand} {m : Option AV} (h : evalOpt ρ x = some m) : OR env m (x.map a.eval) := by
  cases x with
  | none => simp [evalOpt] at h; subst h; trivial
  | some x =>
    simp only [evalOpt] at h
    obtain ⟨v, hv, rfl⟩ := Option.map_eq_some_iff.1 h
    exact hev x v hv

/-! ### filling -/
theorem foldl_set (off : Nat) : ∀ (L : List Value) (k : Nat) (cs : Array Value), off + k + L.length ≤ cs.size →
    ((L.zipIdx k).foldl (fun cs (x : Value × Nat) => cs.setIfInBounds (off + x.2) x.1) cs).size = cs.size ∧
    ∀ i, ((L.zipIdx k).foldl (fun cs (x : Value × Nat) => cs.setIfInBounds (off + x.2) x.1) cs)[i]? = if off + k ≤ i ∧ i < off + k + L.length then L[i - (off + k)]? else cs[i]?
  | [], k, cs, h => ⟨rfl, fun i => by simp; intro h1 h2; omega⟩
  | v :: L, k, cs, h => by
    simp only [List.zipIdx_cons, List.foldl_cons]
    have hk : off + k < cs.size := by simp at h; omega
    obtain ⟨h1, h2⟩ := foldl_set off L (k + 1) (cs.setIfInBounds (off + k) v) (by simp at h ⊢; omega)
    refine ⟨by rw [h1]; simp, fun i => ?_⟩
    rw [h2, Array.getElem?_setIfInBounds]
    simp only [List.length_cons]
    by_cases e : off + k = i
    · subst e
      rw [if_neg (by omega), if_pos rfl, if_pos hk, if_pos (by omega)]
      simp
    · rw [if_neg e]
      by_cases e2 : off + (k + 1) ≤ i ∧ i < off + (k + 1) + L.length
      · rw [if_pos e2, if_pos (by omega)]
        have : i - (off + k) = (i - (off + (k + 1))) + 1 := by omega
        rw [this, List.getElem?_cons_succ]
      · rw [if_neg e2, if_neg (by omega)]

theorem VRs.of_all {env : Env} {l : List AV} {L : List Value} (hl : l.length = L.length) (h : ∀ i : Nat, i < l.length → ∃ v V, l[i]? = some v ∧ L[i]? = some V ∧ VR env v V) : VRs env l L :=
  .of_get hl fun i v V hv hV => by
    have hi : i < l.length := (List.getElem?_eq_some_iff.1 hv).1
    obtain ⟨v', V', h1, h2, h3⟩ := h i hi
    rw [hv] at h1; cases h1
    rw [hV] at h2; cases h2
    exact h3

theorem fill_ok {place place' : Nat → Option (Nat × Nat)} (hp : ∀ i x, place i = some x → place' i = some x) : ∀ (parts : List (Nat × AV)) (PARTS : List (Nat × Value)) (cells l : List AV) (cs : Array Value), PR env parts PARTS → VRs env cells cs.toList → cells.all AV.scalar = true →
    aFill place cells parts = some l → ∃ L : Array Value, Instr.fill place' cs PARTS = some L ∧ VRs env l L.toList ∧ l.all AV.scalar = true ∧ l.length = cells.length
  | [], [], cells, l, cs, _, hc, hs, h => by simp [aFill] at h; subst h; exact ⟨cs, rfl, hc, hs, rfl⟩
  | [], _ :: _, _, _, _, hp', _, _, _ => by simp [PR] at hp'
  | _ :: _, [], _, _, _, hp', _, _, _ => by simp [PR] at hp'
  | (i, v) :: parts, (j, V) :: PARTS, cells, l, cs, hp', hc, hs, h => by
    obtain ⟨rfl, hv, hp'⟩ := hp'
    simp only [aFill] at h
    cases hpl : place i with
    | none => simp [hpl] at h
    | some x =>
      obtain ⟨off, size⟩ := x
      simp only [hpl] at h
      split at h
      · rename_i hcond
        obtain ⟨h1, h2, h3⟩ := hcond
        have hvc := hv.cells
        have hlen : v.cells.length = V.cells.size := by rw [hvc.length]; simp
        have hcl : cells.length = cs.size := by rw [hc.length]; simp
        have hset := foldl_set off V.cells.toList 0 cs (by simp; omega)
        have hz : (V.cells.zipIdx.foldl (fun cs (x : Value × Nat) => cs.setIfInBounds (off + x.2) x.1) cs) = ((V.cells.toList.zipIdx 0).foldl (fun cs (x : Value × Nat) => cs.setIfInBounds (off + x.2) x.1) cs) := by
          rw [← Array.foldl_toList, Array.toList_zipIdx]
        have hnew : VRs env (cells.take off ++ v.cells ++ cells.drop (off + size)) ((V.cells.toList.zipIdx 0).foldl (fun cs (x : Value × Nat) => cs.setIfInBounds (off + x.2) x.1) cs).toList := by
          refine .of_get ?_ fun q u U hu hU => ?_
          · refine Eq.trans ?_ (Eq.trans hset.1.symm Array.length_toList.symm)
            simp; omega
          · rw [Array.getElem?_toList, hset.2] at hU
            simp only [Nat.add_zero, Array.length_toList] at hU
            rw [List.append_assoc, List.getElem?_append] at hu
            simp only [List.length_take] at hu
            by_cases e1 : q < off
            · rw [if_pos (by omega), List.getElem?_take, if_pos e1] at hu
              rw [if_neg (by omega)] at hU
              obtain ⟨U', hU', hr⟩ := hc.get hu
              rw [Array.getElem?_toList, hU] at hU'; cases hU'
              exact hr
            · rw [if_neg (by omega), List.getElem?_append] at hu
              have e0 : q - min off cells.length = q - off := by congr 1; omega
              rw [e0] at hu
              by_cases e2 : q < off + V.cells.size
              · rw [if_pos (by omega)] at hu
                rw [if_pos (by omega)] at hU
                obtain ⟨U', hU', hr⟩ := hvc.get hu
                rw [hU] at hU'; cases hU'
                exact hr
              · rw [if_neg (by omega), List.getElem?_drop] at hu
                rw [if_neg (by omega)] at hU
                have e3 : off + size + (q - off - v.cells.length) = q := by omega
                rw [e3] at hu
                obtain ⟨U', hU', hr⟩ := hc.get hu
                rw [Array.getElem?_toList, hU] at hU'; cases hU'
                exact hr
        have hall : (cells.take off ++ v.cells ++ cells.drop (off + size)).all AV.scalar = true := by
          simp only [List.all_append, Bool.and_eq_true]
          exact ⟨⟨all_take hs, h3⟩, all_drop hs⟩
        obtain ⟨L, e1, e2, e3, e4⟩ := fill_ok hp parts PARTS _ l _ hp' hnew hall h
        refine ⟨L, ?_, e2, e3, ?_⟩
        · simp only [Instr.fill, hp i _ hpl]
          have : (V.cells.size ≠ size || decide (off + V.cells.size > cs.size)) = false := by
            simp only [Bool.or_eq_false_iff, decide_eq_false_iff_not]
            exact ⟨by omega, by omega⟩
          simp only [this, Bool.false_eq_true, if_false, hz]
          exact e1
        · rw [e4]; simp; omega
      · cases h

theorem ret_mapM {α β : Type} (f : α → Sem β) (g : α → β) : ∀ (l : List α), (∀ x ∈ l, Ret P (f x) (g x)) → Ret P (l.mapM f) (l.map g)
  | [], _ => by simp only [List.mapM_nil]; exact .pure _
  | x :: l, h => by
    simp only [List.mapM_cons, List.map_cons]
    exact .bind (h x (by simp)) (.bind (ret_mapM f g l fun y hy => h y (by simp [hy])) (.pure _))

theorem places_get : ∀ (fs : List Field) (l : List (Nat × Nat)), aPlaces P fs = some l → (∀ f ∈ fs, ∃ n, aSize P f.type = some n) ∧ l = fs.map fun f => (f.offset, (aSize P f.type).getD 0)
  | [], l, h => by simp [aPlaces] at h; subst h; exact ⟨fun _ hf => by simp at hf, rfl⟩
  | f :: fs, l, h => by
    simp only [aPlaces] at h
    split at h
    · rename_i n l' hn hl
      simp only [Option.some.injEq] at h; subst h
      obtain ⟨h1, h2⟩ := places_get fs l' hl
      refine ⟨fun g hg => ?_, by simp [hn, h2]⟩
      rcases List.mem_cons.1 hg with rfl | hg
      · exact ⟨n, hn⟩
      · exact h1 g hg
    · cases h

theorem VR.cells_all {v : AV} {V : Value} (h : VR env v V) : VRs env v.cells V.cells.toList := h.cells

theorem ret_build {t : TypeId} {parts : List (Nat × AV)} {PARTS : Array (Nat × Value)} {v : AV} (hh : aBuild P t parts = some v) (hp : PR env parts PARTS.toList) : ∃ V, Ret P (Instr.build t PARTS) V ∧ VR env v V := by
  unfold aBuild at hh
  split at hh
  · rename_i z fields hz hu
    split at hh
    · rename_i places hpl
      split at hh
      · rename_i hs
        obtain ⟨l, hl, rfl⟩ := Option.map_eq_some_iff.1 hh
        obtain ⟨Z, hZ, hzz⟩ := ret_zero hz
        obtain ⟨hsz, hpe⟩ := places_get _ _ hpl
        obtain ⟨L, h1, h2, h3, -⟩ := fill_ok (env := env) (place' := fun i => (fields.toList.map fun f => (f.offset, (aSize P f.type).getD 0)).toArray[i]?) (fun i x hx => by rw [hpe] at hx; simpa using hx) parts PARTS.toList _ l Z.cells hp (hzz env).cells hs hl
        refine ⟨.agg L, .bind hZ (.bind (ret_und hu) ?_), by simpa using VR.agg h2 h3⟩
        simp only []
        refine .bind (v := (fields.toList.map fun f => (f.offset, (aSize P f.type).getD 0)).toArray) ?_ ?_
        · rw [Array.mapM_eq_mapM_toList]
          refine Ret.map (f := List.toArray) (ret_mapM _ _ _ fun f hf => ?_)
          obtain ⟨n, hn⟩ := hsz f hf
          exact .bind (ret_size hn) (by rw [hn]; exact .pure _)
        · simp only [h1]
          exact .pure _
      · cases hh
    · cases hh
  · rename_i z len elem hz hu
    split at hh
    · rename_i n hn
      split at hh
      · rename_i hs
        obtain ⟨l, hl, rfl⟩ := Option.map_eq_some_iff.1 hh
        obtain ⟨Z, hZ, hzz⟩ := ret_zero hz
        obtain ⟨L, h1, h2, h3, -⟩ := fill_ok (env := env) (place' := fun i => some (i * n, n)) (fun i x hx => hx) parts PARTS.toList _ l Z.cells hp (hzz env).cells hs hl
        refine ⟨.agg L, .bind hZ (.bind (ret_und hu) ?_), by simpa using VR.agg h2 h3⟩
        simp only []
        refine .bind (ret_size hn) ?_
        simp only [h1]
        exact .pure _
      · cases hh
    · cases hh
  · cases hh

/-! ### lengths -/
theorem does_len (hs : HS P B w₀ K env h s S w) {t ty : TypeId} {x v : AV} {X : Value} {ts : Array TypeId} {args : Array Value} (hh : aLen P t h x = some v) (hx : VR env x X) (hts : ts[0]? = some t) (ha : args[0]? = some X) :
    ∃ V, Does P (Builtin.len_ ts ty args) w V w ∧ VR env v V := by
  have hstart : ∀ d, P.underlying t = some d → ∀ V, Does P (match d, X with
    | .string, .string s => Pure.pure (goInt s.size)
    | .array n _, _ => Pure.pure (goInt n)
    | .pointer arr, _ => do
      let .array n _ ← underlying arr | stuck "len: pointer to array expected"
      Pure.pure (goInt n)
    | .slice _, .slice _ n _ => Pure.pure (goInt n)
    | .map _ _, .map none | .chan _ _, .chan none => Pure.pure (goInt 0)
    | .map _ _, .map (some r) => do
      let .map entries _ ← getObj r | stuck "len: map expected"
      Pure.pure (goInt entries.size)
    | .chan _ _, .chan (some r) => do
      let .chan _ buf _ _ _ timer ← getObj r | stuck "len: channel expected"
      Pure.pure (goInt (if timer then 0 else buf.size))
    | _, _ => stuck "len: string, array, pointer to array, slice, map or channel expected" : Sem Value) w V w → Does P (Builtin.len_ ts ty args) w V w := by
    intro d hd V hV
    unfold Builtin.len_
    simp only [hts, ha]
    exact .bind ((ret_und hd).does w) hV
  unfold aLen at hh
  split at hh
  · rename_i st hu
    simp only [Option.some.injEq] at hh; subst hh
    refine ⟨goInt st.length, hstart _ hu _ ?_, .int _ _⟩
    rw [hx.inj_str]
    simp only [ByteArray.size, List.size_toArray]
    exact .pure _ _
  · rename_i n e hu
    simp only [Option.some.injEq] at hh; subst hh
    exact ⟨goInt n, hstart _ hu _ (.pure _ _), .int _ _⟩
  · rename_i arr hu
    split at hh
    · rename_i n e hu2
      simp only [Option.some.injEq] at hh; subst hh
      exact ⟨goInt n, hstart _ hu _ (.bind ((ret_und hu2).does w) (.pure _ _)), .int _ _⟩
    · cases hh
  · rename_i e p n cap op hu
    simp only [Option.some.injEq] at hh; subst hh
    refine ⟨goInt n, hstart _ hu _ ?_, .int _ _⟩
    cases hx <;> exact .pure _ _
  · rename_i kt vt hu
    simp only [Option.some.injEq] at hh; subst hh
    cases hx
    exact ⟨goInt 0, hstart _ hu _ (.pure _ _), .int _ _⟩
  · rename_i kt vt b hu
    split at hh
    · rename_i es clock hb
      simp only [Option.some.injEq] at hh; subst hh
      obtain ⟨c, ES, h1, rfl, h2, h3, h4⟩ := hs.at_map hb hx
      refine ⟨goInt ES.size, hstart _ hu _ (.bind (does_getObj_map h3) (.pure _ _)), ?_⟩
      have := h4.1
      simp only [Array.length_toList] at this
      rw [this]
      exact .int _ _
    · cases hh
  · cases hh

theorem ret_maxs : ∀ {l : List AV} {L : List Value} {k : IntKind} {x : Int} {v : AV}, aMinMax.aMM true k x l = some v → VRs env l L → ∃ V, Ret P (L.foldlM Builtin.max2 (.int k x)) V ∧ VR env v V
  | [], L, k, x, v, hh, hl => by
    cases hl
    simp [aMinMax.aMM] at hh; subst hh
    exact ⟨_, .pure _, .int _ _⟩
  | y :: l, L, k, x, v, hh, hl => by
    cases hl with
    | cons hy hl =>
      cases y <;> simp only [aMinMax.aMM] at hh <;> first | (cases hh; done) | skip
      rw [hy.inj_int]
      obtain ⟨V, h1, h2⟩ := ret_maxs hh hl
      refine ⟨V, ?_, h2⟩
      simp only [List.foldlM_cons]
      exact .bind (.pure _) h1
theorem ret_mins : ∀ {l : List AV} {L : List Value} {k : IntKind} {x : Int} {v : AV}, aMinMax.aMM false k x l = some v → VRs env l L → ∃ V, Ret P (L.foldlM Builtin.min2 (.int k x)) V ∧ VR env v V
  | [], L, k, x, v, hh, hl => by
    cases hl
    simp [aMinMax.aMM] at hh; subst hh
    exact ⟨_, .pure _, .int _ _⟩
  | y :: l, L, k, x, v, hh, hl => by
    cases hl with
    | cons hy hl =>
      cases y <;> simp only [aMinMax.aMM] at hh <;> first | (cases hh; done) | skip
      rw [hy.inj_int]
      obtain ⟨V, h1, h2⟩ := ret_mins hh hl
      refine ⟨V, ?_, h2⟩
      simp only [List.foldlM_cons]
      exact .bind (.pure _) h1
theorem ret_max {l : List AV} {L : Array Value} {v : AV} {ts : Array TypeId} {ty : TypeId} (hh : aMinMax true l = some v) (hl : VRs env l L.toList) : ∃ V, Ret P (Builtin.max_ ts ty L) V ∧ VR env v V := by
  unfold aMinMax at hh
  split at hh
  · obtain ⟨L⟩ := L
    simp only at hl
    cases hl with
    | cons hx hl =>
      rw [hx.inj_int]
      exact ret_maxs hh hl
  · cases hh
theorem ret_min {l : List AV} {L : Array Value} {v : AV} {ts : Array TypeId} {ty : TypeId} (hh : aMinMax false l = some v) (hl : VRs env l L.toList) : ∃ V, Ret P (Builtin.min_ ts ty L) V ∧ VR env v V := by
  unfold aMinMax at hh
  split at hh
  · obtain ⟨L⟩ := L
    simp only at hl
    cases hl with
    | cons hx hl =>
      rw [hx.inj_int]
      exact ret_mins hh hl
  · cases hh

/-! ### bytes to a string -/
theorem ret_bytes : ∀ {l : List AV} {L : List Value} {m : List UInt8} (acc : ByteArray), aBytesOf l = some m → VRs env l L →
    Ret P (forIn L acc fun c s => do
      let .int .u8 n := c | stuck "bytesToString: byte expected"
      let s := s.push (UInt8.ofNat n.toNat)
      Pure.pure (ForInStep.yield s) : Sem ByteArray) ⟨acc.data ++ m.toArray⟩
  | [], L, m, acc, hh, hl => by
    cases hl
    simp [aBytesOf] at hh; subst hh
    simp only [List.forIn_nil]
    have : (⟨acc.data ++ ([] : List UInt8).toArray⟩ : ByteArray) = acc := by apply ByteArray.ext; simp
    rw [this]
    exact .pure _
  | x :: l, L, m, acc, hh, hl => by
    cases hl with
    | cons hx hl =>
      unfold aBytesOf at hh
      split at hh
      · rename_i e; cases e
      · rename_i n l' e
        cases e
        obtain ⟨m', hm, rfl⟩ := Option.map_eq_some_iff.1 hh
        rw [hx.inj_int]
        rw [List.forIn_cons]
        have hr := ret_bytes (acc.push (UInt8.ofNat n.toNat)) hm hl
        refine .bind (v := .yield (acc.push (UInt8.ofNat n.toNat))) (.pure _) ?_
        have e : (⟨acc.data ++ (UInt8.ofNat n.toNat :: m').toArray⟩ : ByteArray) = ⟨(acc.push (UInt8.ofNat n.toNat)).data ++ m'.toArray⟩ := by
          apply ByteArray.ext
          simp [ByteArray.push]
        rw [e]
        exact hr
      · cases hh
end
end
end Go.Cx

/-
  OPERATIONS THAT MAKE A BLOCK OF THEIR OWN.
-/
namespace Go.Cx
noncomputable section
open Go Go.Conc
section
variable {P : Program} {B : Nat} {w₀ : World} {K : List Nat} {env : Env} {h h' : AH} {s : Option (Nat × List AV)} {S : Option (Nat × List Value)} {w : World} {ρ : Operand → Option AV} {a : Act} {v : AV}

/-- It makes one block. -/
def NewS (P : Program) (B : Nat) (env : Env) (w : World) (sem : Sem Next) (mk : Nat → AV) (blk : ABlk) : Prop :=
  ∃ V w' obj ex, Does P sem w (.value V) w' ∧ New1 obj w w' ∧
    ∀ b, env.blk b = .hole → BR P B (env.fill b w.heap.size 0 ex) w' b w.heap.size 0 blk ∧ VR (env.fill b w.heap.size 0 ex) (mk b) V

theorem fill_at (b c sh ex : Nat) : (env.fill b c sh ex).blk b = .at c sh := by simp [Env.fill]
theorem fill_ex (b c sh ex : Nat) : (env.fill b c sh ex).ex b = ex := by simp [Env.fill]

/-- A row of cells stands. -/
theorem br_row {e : TypeId} {l : List AV} {op : Bool} {c b : Nat} {w' : World} {arr : Array Value} {fr : Nat × Nat} {ex : Nat} {i : TypeInfo} (hB : B ≤ c) (hi : P.info? e = some i) (hs : l.all AV.scalar = true)
    (hc : w'.heap[c]? = some (.cells arr e fr)) (hl : ∀ j : Nat, j < l.length → ∃ v V, l[j]? = some v ∧ arr[j]? = some V ∧ VR (env.fill b c 0 ex) v V)
    (hfr : Unfrozen fr arr.size) (hop : op = false → ex = 0) (hsz : l.length + (if op then ex else 0) * i.size ≤ arr.size) :
    BR P B (env.fill b c 0 ex) w' b c 0 (.cells e l.length (T.ofList l) op false) := by
  refine ⟨arr, e, fr, hc, fun j hj => ?_, fun _ => ⟨hB, hfr, rfl⟩, ⟨i, hi, ?_⟩, fun ho => ?_⟩
  · obtain ⟨v, V, h1, h2, h3⟩ := hl j hj
    refine ⟨v, V, by rw [T.get_ofList]; exact h1, ?_, by rw [Nat.zero_add]; exact h2, h3⟩
    exact List.all_eq_true.1 hs v (List.mem_of_getElem? h1)
  · rw [fill_ex, Nat.zero_add]; exact hsz
  · rw [fill_ex]; exact hop ho

theorem aNew_some {e : TypeId} {l : List AV} {op : Bool} {r : Nat × AH} (hh : aNew P h e l op = some r) : l.all AV.scalar = true ∧ (∃ i, P.info? e = some i) ∧ r = (h.n, h.push (.cells e l.length (T.ofList l) op false)) := by
  unfold aNew at hh
  split at hh
  · rename_i hc
    simp only [Bool.and_eq_true] at hc
    simp only [Option.some.injEq] at hh
    exact ⟨hc.1, Option.isSome_iff_exists.1 hc.2, hh.symm⟩
  · cases hh

theorem does_newObj (o : Obj) (w : World) : Does P (newObj o) w w.heap.size { w with heap := w.heap.push o } := .of_calm (by simp [newObj, Sem.run]) (calm_newObj o)
theorem does_newRow (e : TypeId) (cells : Array Value) (w : World) : Does P (newRow e cells) w ⟨w.heap.size, 0, none⟩ { w with heap := w.heap.push (.cells cells e) } := .bind (does_newObj _ w) (.pure _ _)
theorem new1_push (o : Obj) (w : World) : New1 o w { w with heap := w.heap.push o } := ⟨rfl, rfl, rfl, rfl⟩

theorem vrs_get' {l : List AV} {L : List Value} (hl : VRs env l L) {j : Nat} (hj : j < l.length) : ∃ v V, l[j]? = some v ∧ L[j]? = some V ∧ VR env v V := by
  obtain ⟨V, hV, hv⟩ := hl.get (List.getElem?_eq_getElem hj)
  exact ⟨_, V, List.getElem?_eq_getElem hj, hV, hv⟩

theorem unfrozen_0 (n : Nat) : Unfrozen (0, 0) n := fun i _ h => by omega

/-- A row that is made, and no more. -/
theorem newS_row {sem : Sem Next} {e : TypeId} {l : List AV} {L : Array Value} {mk : Nat → AV} {V : Value} {op : Bool} {w1 : World} (hB : B ≤ w.heap.size) (hi : ∃ i, P.info? e = some i) (hs : l.all AV.scalar = true) (hl : VRs env l L.toList)
    (h1 : w1.heap = w.heap ∧ w1.tape = w.tape ∧ w1.os = w.os ∧ w1.output = w.output) (hd : Does P sem w (.value V) { w1 with heap := w1.heap.push (.cells L e) })
    (hv : ∀ b, VR (env.fill b w.heap.size 0 0) (mk b) V) : NewS P B env w sem mk (.cells e l.length (T.ofList l) op false) := by
  obtain ⟨h1, h2, h3, h4⟩ := h1
  have hn : New1 (.cells L e) w { w1 with heap := w1.heap.push (.cells L e) } := ⟨h2, h3, h4, by simp [h1]⟩
  refine ⟨V, _, .cells L e, 0, hd, hn, fun b hb => ⟨?_, hv b⟩⟩
  obtain ⟨i, hi⟩ := hi
  have hlen : l.length = L.size := by rw [hl.length]; simp
  refine br_row hB hi hs hn.new (fun j hj => ?_) (unfrozen_0 _) (fun _ => rfl) (by simp; omega)
  obtain ⟨v, V, h1, h2, h3⟩ := vrs_get' hl hj
  exact ⟨v, V, h1, by simpa using h2, h3.mono (Env.le_fill hb)⟩

theorem vr_newPtr {b c ex : Nat} : VR (env.fill b c 0 ex) (.ptr (some (b, 0))) (.pointer (some ⟨c, 0, none⟩)) := by
  have := VR.ptr (env := env.fill b c 0 ex) (o := 0) (fill_at b c 0 ex)
  simpa using this
theorem vr_newSlice {b c l cp : Nat} (hl : l ≤ cp) (op : Bool) : VR (env.fill b c 0 0) (.slice (some (b, 0)) l cp op) (.slice (some ⟨c, 0, none⟩) l cp) := by
  have := VR.sl (env := env.fill b c 0 0) (o := 0) (len := l) (cap := cp) (op := op) (e := 0) (a := ⟨c, 0, none⟩) (fill_at b c 0 0) (by rw [fill_ex]; split <;> rfl) (.inr (by simp)) hl
  simpa using this
theorem vr_openSlice {b c l ex : Nat} : VR (env.fill b c 0 ex) (.slice (some (b, 0)) l l true) (.slice (some ⟨c, 0, none⟩) l (l + ex)) :=
  VR.sl (o := 0) (op := true) (e := ex) (a := ⟨c, 0, none⟩) (fill_at b c 0 ex) (by simp [fill_ex]) (.inr (by simp)) (Nat.le_refl _)

theorem new_alloc {e : TypeId} {z : AV} (hB : B ≤ w.heap.size) (hi : ∃ i, P.info? e = some i) (hz : aZero P e = some z) (hs : z.cells.all AV.scalar = true) :
    NewS P B env w (do Pure.pure (Next.value (← Instr.alloc e true (.tuple #[])))) (fun b => .ptr (some (b, 0))) (.cells e z.cells.length (T.ofList z.cells) false false) := by
  obtain ⟨Z, hZ, hzz⟩ := ret_zero hz
  refine newS_row (w1 := w) (L := Z.cells) hB hi hs (hzz env).cells ⟨rfl, rfl, rfl, rfl⟩ (.val (.bind (hZ.does w) (.bind (does_newRow _ _ _) (.pure _ _)))) fun b => vr_newPtr

theorem new_box {e : TypeId} {x : AV} {X : Value} (hB : B ≤ w.heap.size) (hi : ∃ i, P.info? e = some i) (hx : VR env x X) (hs : x.cells.all AV.scalar = true) :
    NewS P B env w (do Pure.pure (Next.value (← Instr.box e X))) (fun b => .ptr (some (b, 0))) (.cells e x.cells.length (T.ofList x.cells) false false) :=
  newS_row (w1 := w) (L := X.cells) hB hi hs hx.cells ⟨rfl, rfl, rfl, rfl⟩ (.val (.bind (does_newRow _ _ _) (.pure _ _))) fun _b => vr_newPtr

theorem aRep_length (l : List AV) : ∀ n, (aRep l n).length = n * l.length
  | 0 => by simp [aRep]
  | n + 1 => by simp [aRep, aRep_length l n, Nat.succ_mul, Nat.add_comm]
theorem aRep_all {l : List AV} (h : l.all AV.scalar = true) : ∀ n, (aRep l n).all AV.scalar = true
  | 0 => rfl
  | n + 1 => by simp only [aRep, List.all_append, h, aRep_all h n, Bool.and_self]
theorem aRep_get (l : List AV) : ∀ n i, i < n * l.length → (aRep l n)[i]? = l[i % l.length]?
  | 0, i, h => by simp at h
  | n + 1, i, h => by
    simp only [aRep]
    rw [List.getElem?_append]
    split
    · rename_i hi; rw [Nat.mod_eq_of_lt hi]
    · rename_i hi
      rw [aRep_get l n (i - l.length) (by rw [Nat.succ_mul] at h; omega)]
      congr 1
      rw [← Nat.mod_eq_sub_mod (by omega)]
/-- Zeros. -/
theorem vrs_rep {l : List AV} {Z : Array Value} (hl : VRs env l Z.toList) (n : Nat) : VRs env (aRep l n) ((Array.range (n * l.length)).map (fun i => Z[i % Z.size]!)).toList := by
  have hlen : l.length = Z.size := by rw [hl.length]; simp
  refine .of_get (by simp [aRep_length]) fun i v V hv hV => ?_
  have hi : i < n * l.length := by rw [← aRep_length]; exact (List.getElem?_eq_some_iff.1 hv).1
  rw [aRep_get l n i hi] at hv
  have hpos : 0 < l.length := by
    rcases Nat.eq_zero_or_pos l.length with e | e
    · rw [e] at hi; omega
    · exact e
  obtain ⟨U, hU, hr⟩ := hl.get hv
  have hlt : i % l.length < Z.size := by rw [← hlen]; exact Nat.mod_lt _ hpos
  rw [Array.getElem?_toList] at hU hV
  simp only [Array.getElem?_map, Array.getElem?_range, hi, if_true, Option.map_some, Option.some.injEq] at hV
  rw [← hlen] at hV
  have : Z[i % l.length]! = U := by
    rw [Array.getElem!_eq_getD, Array.getD_eq_getD_getElem?, hU]; rfl
  rw [this] at hV; subst hV
  exact hr

theorem new_buildSlice {t e : TypeId} {len size : Nat} {z : AV} {ps : List (Nat × AV)} {PS : Array (Nat × Value)} {l : List AV} (hB : B ≤ w.heap.size) (hi : ∃ i, P.info? e = some i) (hu : P.underlying t = some (.slice e)) (hsz : aSize P e = some size) (hz : aZero P e = some z)
    (hc : len * size ≤ 2 ^ 24 ∧ z.cells.length = size ∧ z.cells.all AV.scalar = true) (hf : aFill (fun i => some (i * size, size)) (aRep z.cells len) ps = some l) (hp : PR env ps PS.toList) (hls : l.all AV.scalar = true) :
    NewS P B env w (do Pure.pure (Next.value (← Instr.buildSlice t len PS))) (fun b => .slice (some (b, 0)) len len false) (.cells e l.length (T.ofList l) false false) := by
  obtain ⟨Z, hZ, hzz⟩ := ret_zero hz
  have hrep := vrs_rep (hzz env).cells len
  obtain ⟨L, h1, h2, h3, -⟩ := fill_ok (env := env) (place' := fun i => some (i * size, size)) (fun i x hx => hx) ps PS.toList _ l _ hp hrep (aRep_all hc.2.2 len) hf
  refine newS_row (w1 := w) (L := L) (V := .slice (some ⟨w.heap.size, 0, none⟩) len len) hB hi hls h2 ⟨rfl, rfl, rfl, rfl⟩ (.val ?_) fun b => vr_newSlice (Nat.le_refl _) false
  refine .bind ((ret_und hu).does w) ?_
  simp only []
  refine .bind ((ret_size hsz).does w) ?_
  rw [if_neg (by omega)]
  have hz' : Does P (if len * size = 0 then Pure.pure #[] else do Pure.pure (← zeroValue e).cells : Sem (Array Value)) w (if len * size = 0 then #[] else Z.cells) w := by
    split
    · exact .pure _ _
    · exact .bind (hZ.does w) (.pure _ _)
  have he : ((Array.range (len * size)).map (fun i => (if len * size = 0 then #[] else Z.cells)[i % (if len * size = 0 then (#[] : Array Value) else Z.cells).size]!)) = (Array.range (len * z.cells.length)).map (fun i => Z.cells[i % Z.cells.size]!) := by
    rw [hc.2.1]
    by_cases e0 : len * size = 0
    · rw [e0]; simp
    · simp only [e0, if_false]
  by_cases e0 : len * size = 0
  · rw [if_pos e0]
    refine .bind (.pure _ _) ?_
    rw [if_pos e0] at he
    rw [he, h1]
    exact .bind (does_newRow _ _ _) (.pure _ _)
  · rw [if_neg e0]
    refine .bind (hZ.does w) (.bind (.pure _ _) ?_)
    rw [if_neg e0] at he
    rw [he, h1]
    exact .bind (does_newRow _ _ _) (.pure _ _)

theorem new_makeMap {t : TypeId} (hB : B ≤ w.heap.size) : NewS P B env w (do Pure.pure (Next.value (← Instr.makeMap t none))) (fun b => .map (some b)) (.map [] 0) := by
  refine ⟨.map (some w.heap.size), _, .map #[] 0, 0, .val (.bind (does_newObj _ _) (.pure _ _)), new1_push _ w, fun b hb => ⟨?_, .map (fill_at b _ 0 0)⟩⟩
  exact ⟨hB, rfl, #[], (new1_push _ w).new, rfl, fun i k v bn hi => by simp at hi⟩

theorem wrap_small {n : Int} (h0 : 0 ≤ n) (h1 : n < 9223372036854775808) : IntKind.i64.wrap n = n := by
  unfold IntKind.wrap
  have e : n % (2 ^ IntKind.i64.bits : Int) = n := Int.emod_eq_of_lt h0 (by simp [IntKind.bits]; omega)
  simp only [e]
  have : (IntKind.i64.signed && decide (n ≥ 2 ^ (IntKind.i64.bits - 1))) = false := by
    simp [IntKind.signed, IntKind.bits]; omega
  rw [this]
  simp

theorem new_makeSlice {t e : TypeId} {l c : Int} {k k' : IntKind} {size bytes : Nat} {z : AV} (hB : B ≤ w.heap.size) (hu : P.underlying t = some (.slice e)) (hsz : aSize P e = some size) (hby : aBytes P e = some bytes) (hz : aZero P e = some z)
    (hc : 0 ≤ l ∧ l ≤ c ∧ c ≤ 16777216 ∧ bytes * c.toNat ≤ roomMax ∧ z.cells.length = size) (hs : (aRep z.cells c.toNat).all AV.scalar = true) :
    NewS P B env w (do Pure.pure (Next.value (← Instr.makeSlice t (.int k l) (.int k' c)))) (fun b => .slice (some (b, 0)) l.toNat c.toNat false) (.cells e (aRep z.cells c.toNat).length (T.ofList (aRep z.cells c.toNat)) false false) := by
  obtain ⟨Z, hZ, hzz⟩ := ret_zero hz
  obtain ⟨i, hi, rfl⟩ := Option.map_eq_some_iff.1 hby
  have hi' := hi
  obtain ⟨c0, c1, c2, c3, c4⟩ := hc
  have hrep := vrs_rep (hzz env).cells c.toNat
  refine newS_row (w1 := w) (V := .slice (some ⟨w.heap.size, 0, none⟩) l.toNat c.toNat) hB ⟨i, hi⟩ hs hrep ⟨rfl, rfl, rfl, rfl⟩ (.val ?_) fun b => vr_newSlice (by omega) false
  refine .bind ((ret_und hu).does w) ?_
  simp only []
  refine .bind ((ret_asInt _ _).does w) (.bind ((ret_asInt _ _).does w) (.bind ((ret_info hi).does w) ?_))
  simp only [wrap_small c0 (by omega), wrap_small (Int.le_trans c0 c1) (by omega)]
  have ht : (decide (c < 0) || decide ((i.bytes : Int) * c > 2 ^ 48)) = false := by
    have : (i.bytes : Int) * c ≤ 17592186044416 := by
      have h2 : c = (c.toNat : Int) := by omega
      rw [h2]
      unfold roomMax at c3
      rw [← Int.natCast_mul]
      omega
    simp only [Bool.or_eq_false_iff, decide_eq_false_iff_not]
    exact ⟨by omega, by omega⟩
  have hl : (decide (l < 0) || decide (l > c)) = false := by
    simp only [Bool.or_eq_false_iff, decide_eq_false_iff_not]; omega
  rw [Bool.or_assoc, ht, hl]
  simp only [Bool.or_self, Bool.false_eq_true, if_false]
  have hroom : Does P (askRoom (c.toNat * i.bytes)) w () w := by
    unfold askRoom
    rw [if_neg]
    · exact .pure _ _
    · unfold roomBytes
      unfold roomMax at c3
      rw [Nat.mul_comm]
      omega
  refine .bind hroom (.bind ((ret_size hsz).does w) ?_)
  by_cases e0 : c.toNat * size = 0
  · rw [if_pos e0]
    refine .bind (.pure _ _) ?_
    have : ((Array.range (c.toNat * size)).map (fun i => (#[] : Array Value)[i % (#[] : Array Value).size]!)) = (Array.range (c.toNat * z.cells.length)).map (fun i => Z.cells[i % Z.cells.size]!) := by
      rw [c4, e0]; apply Array.ext <;> simp only [Array.size_map, Array.size_range]; intro i h1; omega
    rw [this]
    exact .bind (does_newRow _ _ _) (.pure _ _)
  · rw [if_neg e0, ← c4]
    exact .bind (hZ.does w) (.bind (.pure _ _) (.bind (does_newRow _ _ _) (.pure _ _)))

theorem appendCap_ge {n e : TypeId} {o : Nat} (t : Nat) : n ≤ (Question.appendCap n o e).cut t := by simp [Question.cut]

theorem does_choose_cap (n o : Nat) (e : TypeId) (w : World) : ∃ c, n ≤ c ∧ Does P (choose (.appendCap n o e)) w c { w with drawn := w.drawn + 1 } := by
  refine ⟨(Question.appendCap n o e).cut (w.tape w.drawn (.appendCap n o e)), by simp [Question.cut], .of_calm ?_ (calm_choose _)⟩
  simp [choose, Sem.run, Question.forced]

theorem new_bytes {e : TypeId} {l : List UInt8} {i : TypeInfo} {sem : Sem Next} (hB : B ≤ w.heap.size) (hi : P.info? e = some i) (hsz : i.size = 1) (hsem : ∀ V w', Does P (Conv.stringToBytes e ⟨l.toArray⟩) w V w' → Does P sem w (.value V) w') :
    NewS P B env w sem (fun b => .slice (some (b, 0)) l.length l.length true) (.cells e (ofBytes l).length (T.ofList (ofBytes l)) true false) := by
  obtain ⟨c, hc, hd⟩ := does_choose_cap (P := P) l.length 0 e w
  have hsize : (⟨l.toArray⟩ : ByteArray).size = l.length := by simp [ByteArray.size]
  let arr : Array Value := (l.toArray.map fun b => (.int .u8 b.toNat : Value)) ++ Array.replicate (c - l.length) (.int .u8 0)
  have harr : arr.size = c := by simp [arr]; omega
  have hx : ∀ x : Obj, ({ w with drawn := w.drawn + 1 } : World).heap.push x = w.heap.push x := fun _ => rfl
  let w1 : World := { w with drawn := w.drawn + 1, heap := w.heap.push (.cells arr e) }
  let w2 : World := { w with drawn := w.drawn + 1, heap := w.heap.push (.cells arr e (c, c + 1)) }
  have hfz : w1.freeze ⟨w.heap.size, c, none⟩ 1 = w2 := by
    simp only [World.freeze, w1, w2, Nat.succ_ne_zero, if_false]
    congr 1
    apply Array.ext_getElem?
    intro j
    rw [Array.getElem?_modify, Array.getElem?_push, Array.getElem?_push]
    by_cases e1 : w.heap.size = j
    · subst e1
      rw [if_pos rfl, if_pos rfl, if_pos rfl]; simp
    · rw [if_neg e1]
      have e2 : ¬ j = w.heap.size := fun h => e1 h.symm
      rw [if_neg e2, if_neg e2]
  have hmark : Does P (markStringish ⟨w.heap.size, 0, none⟩) w1 () w2 := by
    have hshape : w1.shape? w.heap.size = some (e, c) := by
      simp only [World.shape?, w1, Array.getElem?_push, if_true, harr]
    refine .of_calm ?_ (.bind (calm_shape _) fun o => ?_)
    · simp [markStringish, shape, freeze, Sem.run, hshape, hfz]
    · cases o with
      | none => exact .pure _
      | some x => exact calm_freeze _ _
  have hn : New1 (.cells arr e (c, c + 1)) w w2 := ⟨rfl, rfl, rfl, rfl⟩
  refine ⟨.slice (some ⟨w.heap.size, 0, none⟩) l.length c, w2, _, c - l.length, hsem _ _ ?_, hn, fun b hb => ⟨?_, ?_⟩⟩
  · unfold Conv.stringToBytes
    rw [hsize]
    refine .bind hd (.bind (does_newRow _ _ _) ?_)
    refine .bind (v := ()) (w' := w2) hmark ?_
    exact .pure _ _
  · refine br_row hB hi (by simp [ofBytes, AV.scalar]) hn.new (fun j hj => ?_) (fun q hq hfr => by omega) (fun hf => by cases hf) ?_
    · simp only [ofBytes, List.length_map] at hj
      refine ⟨_, .int .u8 l[j].toNat, by simp [ofBytes, List.getElem?_eq_getElem hj], ?_, .int _ _⟩
      simp only [arr, Array.getElem?_append, Array.size_map, List.size_toArray, hj, if_true]
      simp [hj]
    · simp only [if_true, hsz, ofBytes, List.length_map]
      omega
  · have := vr_openSlice (env := env) (b := b) (c := w.heap.size) (l := l.length) (ex := c - l.length)
    have e1 : l.length + (c - l.length) = c := by omega
    rw [e1] at this
    exact this
end
end
end Go.Cx

/-
  EVERY OPERATION THAT FLOATS DOES WHAT THE INTERPRETER SAYS.
-/
namespace Go.Cx
noncomputable section
open Go Go.Conc
section
variable {P : Program} {B : Nat} {w₀ : World} {K : List Nat} {env : Env} {h h' : AH} {s : Option (Nat × List AV)} {S : Option (Nat × List Value)} {w : World} {ρ : Operand → Option AV} {a : Act} {v : AV} {o : Oper}

/-- The kinds of new references. -/
inductive Mk : (Nat → AV) → Prop
  | ptr : Mk fun b => .ptr (some (b, 0))
  | slice (l c : Nat) (op : Bool) : Mk fun b => .slice (some (b, 0)) l c op
  | map : Mk fun b => .map (some b)
/-- The kinds of new blocks. -/
def Plain : ABlk → Prop
  | .cells .. | .map .. => True
  | _ => False

def FloatN (P : Program) (env : Env) (w : World) (sem : Sem Next) (v : AV) (h h' : AH) : Prop := h' = h ∧ ∃ V, Does P sem w (.value V) w ∧ VR env v V
def FloatA (P : Program) (B : Nat) (env : Env) (w : World) (sem : Sem Next) (v : AV) (h h' : AH) : Prop := ∃ mk blk, h' = h.push blk ∧ v = mk h.n ∧ Mk mk ∧ Plain blk ∧ NewS P B env w sem mk blk

theorem retV_some' {v' : Option AV} {r : ARes} {h'' : AH} (e : retV h v' = some (r, h'')) : ∃ v, v' = some v ∧ r = .val v ∧ h'' = h := by
  obtain ⟨v, h1, h2⟩ := retV_some e
  cases h2
  exact ⟨v, h1, rfl, rfl⟩

theorem FloatN.of_ret {sem : Sem Value} {V : Value} (hr : Ret P sem V) (hv : VR env v V) : FloatN P env w (do Pure.pure (Next.value (← sem))) v h h := ⟨rfl, V, (Ret.does (.val hr) w), hv⟩

theorem resolve_builtin {c : Call} {b : Builtin} (hc : c.callee = .builtin b) (ty : TypeId) : ∃ cs, Ret P (resolve a.eval c ty) { target := .builtin b c.argTypes ty cs, args := c.args.map a.eval } := by
  unfold resolve
  simp only [hc]
  exact ⟨_, .pure _⟩

theorem float_sound (hB : B ≤ w.heap.size) (hf : isFloat o = true) (ha : aop P ρ o h = some (.val v, h')) (hev : EvR env ρ a) (hs : HS P B w₀ K env h s S w) :
    FloatN P env w (execOp a.eval o) v h h' ∨ FloatA P B env w (execOp a.eval o) v h h' := by
  unfold aop at ha
  unfold isFloat at hf
  unfold execOp
  cases hop : o.op with
  | move x =>
    simp only [hop] at ha ⊢
    obtain ⟨v', h1, h2, rfl⟩ := retV_some' ha
    cases h2
    exact .inl ⟨rfl, _, .pure _ _, hev x _ h1⟩
  | assign x =>
    simp only [hop] at ha ⊢
    obtain ⟨v', h1, h2, rfl⟩ := retV_some' ha
    cases h2
    exact .inl ⟨rfl, _, .pure _ _, hev x _ h1⟩
  | pick c x y =>
    simp only [hop] at ha ⊢
    split at ha
    · rename_i t hc
      obtain ⟨v', h1, h2, rfl⟩ := retV_some' ha
      cases h2
      have hb := (hev c _ hc).inj_bool
      refine .inl ⟨rfl, if t then a.eval x else a.eval y, ?_, ?_⟩
      · rw [hb]; exact .bind ((ret_asBool t).does w) (.pure _ _)
      · cases t with
        | true => exact hev x _ (by simpa using h1)
        | false => exact hev y _ (by simpa using h1)
    · cases ha
  | alloc e =>
    simp only [hop] at ha ⊢
    split at ha
    · rename_i z hz
      split at ha
      · rename_i b h1 hn
        obtain ⟨g1, g2, g3⟩ := aNew_some hn
        cases g3; cases ha
        exact .inr ⟨_, _, rfl, rfl, .ptr, trivial, new_alloc hB g2 hz g1⟩
      · cases ha
    · cases ha
  | box e x =>
    simp only [hop] at ha ⊢
    split at ha
    · rename_i z hz
      split at ha
      · rename_i b h1 hn
        obtain ⟨g1, g2, g3⟩ := aNew_some hn
        cases g3; cases ha
        exact .inr ⟨_, _, rfl, rfl, .ptr, trivial, new_box hB g2 (hev x _ hz) g1⟩
      · cases ha
    · cases ha
  | build t parts =>
    simp only [hop] at ha ⊢
    split at ha
    · rename_i ps hps
      obtain ⟨v', h1, h2, rfl⟩ := retV_some' ha
      cases h2
      have hpr := evalParts_pr hev hps
      obtain ⟨V, hV, hv⟩ := ret_build (PARTS := parts.map fun (i, x) => (i, a.eval x)) h1 (by simpa using hpr)
      exact .inl (.of_ret hV hv)
    · cases ha
  | buildSlice t len parts =>
    simp only [hop] at ha ⊢
    split at ha
    · rename_i ps elem hps hu
      split at ha
      · rename_i size z hsz hz
        split at ha
        · rename_i hc
          split at ha
          · rename_i l hl
            split at ha
            · rename_i b h1 hn
              obtain ⟨g1, g2, g3⟩ := aNew_some hn
              cases g3; cases ha
              have hpr := evalParts_pr hev hps
              exact .inr ⟨_, _, rfl, rfl, .slice _ _ _, trivial, new_buildSlice hB g2 hu hsz hz hc hl (by simpa using hpr) g1⟩
            · cases ha
          · cases ha
        · cases ha
      · cases ha
    · cases ha
  | load t x =>
    simp only [hop] at ha ⊢
    split at ha
    · rename_i b off hx
      obtain ⟨v', h1, h2, rfl⟩ := retV_some' ha
      cases h2
      obtain ⟨ad, X, e1, e2, e3⟩ := run_load_var hs h1 (hev x _ hx)
      refine .inl ⟨rfl, X, .val ?_, e3⟩
      rw [e1]
      exact .bind (.pure _ _) (.of_calm e2 (calm_loadVar _ _))
    · cases ha
  | nilCheck x =>
    simp only [hop] at ha ⊢
    split at ha
    · rename_i p hx
      cases ha
      have hv := hev x _ hx
      obtain ⟨b, o⟩ := p
      obtain ⟨ad, e, -⟩ := hv.ptr_inv
      rw [e] at hv ⊢
      exact .inl ⟨rfl, _, .pure _ _, hv⟩
    · rename_i f A C hx
      cases ha
      have hv := hev x _ hx
      generalize a.eval x = X at *
      cases hv with
      | func h1 h2 => exact .inl ⟨rfl, _, .pure _ _, .func h1 h2⟩
    · rename_i t u hx
      cases ha
      have hv := hev x _ hx
      generalize a.eval x = X at *
      cases hv with
      | iface h1 => exact .inl ⟨rfl, _, .pure _ _, .iface h1⟩
    · cases ha
  | binOp op t x y yt =>
    simp only [hop] at ha ⊢
    split at ha
    · rename_i u u' hx hy
      obtain ⟨v', h1, h2, rfl⟩ := retV_some' ha
      cases h2
      obtain ⟨V, hV, hv⟩ := ret_bin rfl h1 (hev x _ hx) (hev y _ hy)
      exact .inl (.of_ret hV hv)
    · cases ha
  | unOp op t x =>
    simp only [hop] at ha ⊢
    split at ha
    · rename_i u hx
      obtain ⟨v', h1, h2, rfl⟩ := retV_some' ha
      cases h2
      obtain ⟨V, hV, hv⟩ := ret_un h1 (hev x _ hx)
      exact .inl (.of_ret hV hv)
    · cases ha
  | convert src dst x =>
    simp only [hop] at ha ⊢
    split at ha
    · rename_i u hx
      have hv := hev x _ hx
      generalize a.eval x = X at *
      unfold aConvert at ha
      split at ha
      · rename_i d k k' n hu1 hu2
        cases ha
        cases hv
        refine .inl (.of_ret (V := .int k (k.wrap n)) (.bind (ret_und hu1) (.bind (ret_und hu2) ?_)) (.int _ _))
        cases d <;> exact .pure _
      · rename_i l hu1 hu2
        cases ha
        cases hv
        exact .inl (.of_ret (.bind (ret_und hu1) (.bind (ret_und hu2) (.pure _))) (.str _))
      · rename_i e l hu1 hu2
        split at ha
        · rename_i hu3
          split at ha
          · rename_i hsz
            split at ha
            · rename_i b h1 hn
              obtain ⟨g1, g2, g3⟩ := aNew_some hn
              cases g3; cases ha
              cases hv
              obtain ⟨i, hi, hi1⟩ := Option.map_eq_some_iff.1 hsz
              exact .inr ⟨_, _, rfl, rfl, .slice _ _ _, trivial, new_bytes hB hi hi1 fun V w' hd => .val (.bind ((ret_und hu1).does w) (.bind ((ret_und hu2).does w) (.bind ((ret_und hu3).does w) hd)))⟩
            · cases ha
          · cases ha
        · cases ha
      · rename_i e p len cap op hu1 hu2
        split at ha
        · rename_i hu3
          cases ha
          cases hv
          exact .inl (.of_ret (.bind (ret_und hu1) (.bind (ret_und hu2) (.bind (ret_und hu3) (.pure _)))) (.str []))
        · rename_i b o' hu3
          split at ha
          · rename_i l hl
            obtain ⟨m, hm, hr⟩ := Option.map_eq_some_iff.1 ha
            cases hr
            have key : ∀ c sh ad cp, env.blk b = .at c sh → (len = 0 ∨ ad = ⟨c, sh + o', none⟩) → X = .slice (some ad) len cp → FloatN P env w (do Pure.pure (Next.value (← convert src dst X))) (.str m) h h := by
              intro c sh ad cp hat had hX
              subst hX
              unfold aCellsAt at hl
              split at hl
              · rename_i el n cs op' ro hb
                split at hl
                · rename_i hle
                  obtain ⟨L, g1, g2, g3, g4⟩ := gets_run (hs.rel _ _ _ _ hb hat) hle hl
                  have hld : (loadCells ad len).run P w = .ok L.toArray w := by
                    rcases had with e0 | rfl
                    · subst e0
                      have : L = [] := by simpa using g3
                      subst this
                      rfl
                    · exact run_loadCells g3.symm g4
                  refine ⟨rfl, .string ⟨m.toArray⟩, .val ?_, .str _⟩
                  refine .bind ((ret_und hu1).does w) (.bind ((ret_und hu2).does w) ?_)
                  simp only []
                  refine .bind ((ret_und hu3).does w) ?_
                  simp only [Conv.bytesToString]
                  refine .bind (.of_calm hld (calm_loadCells _ _)) ?_
                  rw [← Array.forIn_toList]
                  refine .bind ((ret_bytes ByteArray.empty hm g1).does w) ?_
                  have : (⟨ByteArray.empty.data ++ m.toArray⟩ : ByteArray) = ⟨m.toArray⟩ := by apply ByteArray.ext; simp
                  rw [this]
                  exact .pure _ _
                · cases hl
              · cases hl
            have hnd : env.blk b ≠ .dead := fun e => by
              have := hs.dead _ e
              unfold aCellsAt at hl
              rw [this] at hl
              cases hl
            cases hv with
            | @sl _ _ _ _ c sh e _ ad hat he hx' hll =>
              refine .inl (key c sh ad _ hat ?_ rfl)
              rcases hx' with h0 | h0
              · left; omega
              · right; exact h0
            | slD hd => exact absurd hd hnd
          · cases ha
        · cases ha
      · cases ha
    · cases ha
  | makeInterface t x =>
    simp only [hop] at ha ⊢
    split at ha
    · cases ha
    · rename_i u d hne hx hu
      cases ha
      refine .inl (.of_ret (.bind (ret_und hu) ?_) (.iface (hev x _ hx)))
      cases d <;> first
        | exact .pure _
        | exact (hne _ rfl).elim
    · cases ha
  | makeFunc fn first cap =>
    simp only [hop] at ha ⊢
    split at ha
    · rename_i f c hf' hc
      cases ha
      have h1 := evalAll_vrs hev hf'
      have h2 := evalAll_vrs hev hc
      refine .inl (.of_ret (V := .func fn (first.map a.eval) (cap.map a.eval)) (.pure _) ?_)
      have := VR.func (fn := fn) h1 h2
      rw [← Array.toList_map, ← Array.toList_map] at this
      exact this
    · cases ha
  | makeMap t r =>
    cases r with
    | none =>
      simp only [hop] at ha ⊢
      split at ha
      · cases ha
        exact .inr ⟨_, _, rfl, rfl, .map, trivial, new_makeMap hB⟩
      · cases ha
    | some x => simp [hop] at ha
  | makeSlice t l c =>
    simp only [hop] at ha ⊢
    split at ha
    · rename_i k n k' n' e hl hc hu
      split at ha
      · rename_i size bytes z hsz hby hz
        split at ha
        · rename_i hcond
          split at ha
          · rename_i b h1 hn
            obtain ⟨g1, g2, g3⟩ := aNew_some hn
            cases g3; cases ha
            have e1 := (hev l _ hl).inj_int
            have e2 := (hev c _ hc).inj_int
            rw [e1, e2]
            exact .inr ⟨_, _, rfl, rfl, .slice _ _ _, trivial, new_makeSlice hB hu hsz hby hz hcond g1⟩
          · cases ha
        · cases ha
      · cases ha
    · cases ha
  | slice t x lo hi mx =>
    simp only [hop] at ha ⊢
    split at ha
    · rename_i u l hh m hx hl hhh hm
      obtain ⟨v', h1, h2, rfl⟩ := retV_some' ha
      cases h2
      obtain ⟨V, hV, hv⟩ := ret_slice h1 (hev x _ hx) (evalOpt_or hev hl) (evalOpt_or hev hhh) (evalOpt_or hev hm)
      exact .inl (.of_ret hV hv)
    · cases ha
  | fieldAddr t x f =>
    simp only [hop] at ha ⊢
    split at ha
    · rename_i u hx
      obtain ⟨v', h1, h2, rfl⟩ := retV_some' ha
      cases h2
      obtain ⟨V, hV, hv⟩ := ret_fieldAddr h1 (hev x _ hx)
      exact .inl (.of_ret hV hv)
    · cases ha
  | field t x f =>
    simp only [hop] at ha ⊢
    split at ha
    · rename_i u hx
      obtain ⟨v', h1, h2, rfl⟩ := retV_some' ha
      cases h2
      obtain ⟨V, hV, hv⟩ := ret_field h1 (hev x _ hx)
      exact .inl (.of_ret hV hv)
    · cases ha
  | indexAddr t x i =>
    simp only [hop] at ha ⊢
    split at ha
    · rename_i u j hx hi
      obtain ⟨v', h1, h2, rfl⟩ := retV_some' ha
      cases h2
      obtain ⟨V, hV, hv⟩ := ret_indexAddr h1 (hev x _ hx) (hev i _ hi)
      exact .inl (.of_ret hV hv)
    · cases ha
  | index t x i =>
    simp only [hop] at ha ⊢
    split at ha
    · rename_i u j hx hi
      obtain ⟨v', h1, h2, rfl⟩ := retV_some' ha
      cases h2
      obtain ⟨V, hV, hv⟩ := ret_index h1 (hev x _ hx) (hev i _ hi)
      exact .inl (.of_ret hV hv)
    · cases ha
  | lookup t x i ok =>
    simp only [hop] at ha ⊢
    split at ha
    · rename_i u j hx hi
      obtain ⟨v', h1, h2, rfl⟩ := retV_some' ha
      cases h2
      obtain ⟨V, hV, hv⟩ := does_lookup hs h1 (hev x _ hx) (hev i _ hi)
      exact .inl ⟨rfl, V, .val hV, hv⟩
    · cases ha
  | typeAssert x xt t ok =>
    simp only [hop] at ha ⊢
    cases hx : ρ x with
    | none => simp [hx] at ha
    | some u =>
      rw [hx] at ha
      obtain ⟨v', V, h1, h2, h3⟩ := ret_typeAssert (xt := xt) ha (hev x _ hx)
      cases h1
      exact .inl (.of_ret h2 h3)
  | extract t i =>
    simp only [hop] at ha ⊢
    split at ha
    · rename_i vs hx
      obtain ⟨v', h1, h2, rfl⟩ := retV_some' ha
      cases h2
      obtain ⟨V, hV, hv⟩ := ret_extract h1 (hev t _ hx)
      exact .inl (.of_ret hV hv)
    · cases ha
  | call c =>
    simp only [hop] at ha hf ⊢
    unfold aCall at ha
    split at ha
    · cases ha
    · rename_i args hargs
      have hvr := evalAll_vrs hev hargs
      have main : ∀ b, c.callee = .builtin b → (b = .len ∨ b = .min ∨ b = .max) → FloatN P env w (do let d ← resolve a.eval c o.type; invoke d.target d.args) v h h' := by
        intro b hc hb
        obtain ⟨cs, hres⟩ := resolve_builtin (P := P) (a := a) hc o.type
        simp only [hc] at ha
        rcases hb with rfl | rfl | rfl
        · simp only [aBuiltin] at ha
          split at ha
          · rename_i t ts x xs hts
            obtain ⟨v', h1, h2, rfl⟩ := retV_some' ha
            cases h2
            have hts' : c.argTypes[0]? = some t := by rw [← Array.getElem?_toList, hts]; rfl
            obtain ⟨X, hX, hxr⟩ := hvr.get (i := 0) (v := x) rfl
            obtain ⟨V, hV, hv⟩ := does_len (ts := c.argTypes) (ty := o.type) (args := c.args.map a.eval) hs h1 hxr hts' (by rw [← Array.getElem?_toList, Array.toList_map]; exact hX)
            exact ⟨rfl, V, .bind (hres.does w) (.val hV), hv⟩
          · cases ha
        · simp only [aBuiltin] at ha
          obtain ⟨v', h1, h2, rfl⟩ := retV_some' ha
          cases h2
          obtain ⟨V, hV, hv⟩ := ret_min (P := P) (ts := c.argTypes) (ty := o.type) (L := c.args.map a.eval) h1 (by simpa using hvr)
          exact ⟨rfl, V, .bind (hres.does w) (Ret.does (.val hV) w), hv⟩
        · simp only [aBuiltin] at ha
          obtain ⟨v', h1, h2, rfl⟩ := retV_some' ha
          cases h2
          obtain ⟨V, hV, hv⟩ := ret_max (P := P) (ts := c.argTypes) (ty := o.type) (L := c.args.map a.eval) h1 (by simpa using hvr)
          exact ⟨rfl, V, .bind (hres.does w) (Ret.does (.val hV) w), hv⟩
      obtain ⟨callee, cargs, cts⟩ := c
      cases callee with
      | builtin b =>
        cases b <;> first
          | (simp at hf; done)
          | exact .inl (main _ rfl (.inl rfl))
          | exact .inl (main _ rfl (.inr (.inl rfl)))
          | exact .inl (main _ rfl (.inr (.inr rfl)))
      | _ => simp at hf
  | _ => simp [hop] at hf
end
end
end Go.Cx

/-
  OPERATIONS THAT WRITE CELLS.
-/
namespace Go.Cx
noncomputable section
open Go Go.Conc
section
variable {P : Program} {B : Nat} {w₀ : World} {K : List Nat} {env : Env} {h h' : AH} {s : Option (Nat × List AV)} {S : Option (Nat × List Value)} {w w' : World} {ρ : Operand → Option AV} {a : Act} {v : AV} {o : Oper}

theorem own_same' {w' : World} {es : Array Event} (h1 : w'.heap = w.heap) (he : ∀ e ∈ es, EvOk e) : Own w w' es := .of_same h1 (fun e h => (he e h).1) (fun e h => (he e h).2)
theorem own_new' {w' : World} {ob : Obj} {es : Array Event} (hn : New1 ob w w') (he : ∀ e ∈ es, EvOk e) : Own w w' es := .of_new hn (fun e h => (he e h).1) (fun e h => (he e h).2)
theorem own_put' {w' : World} {c : Nat} {es : Array Event} (h1 : At1 c w w') (hc : ¬ IsChan w c) (hc' : ¬ IsChan w' c) (he : ∀ e ∈ es, EvOk e) : Own w w' es :=
  .of_put h1 hc hc' (fun e h => (he e h).1) (fun e h k hk hw => by rw [(he e h).2 k hk] at hw; cases hw)

theorem cells_not_chan {c : Nat} {arr : Array Value} {e : TypeId} {fr : Nat × Nat} (h : w.heap[c]? = some (.cells arr e fr)) : ¬ IsChan w c := by
  unfold IsChan
  rw [h]
  rintro ⟨_, _, _, _, _, _, hh⟩
  cases hh

theorem At1.refl (c : Nat) (w : World) : At1 c w w := ⟨rfl, rfl, rfl, rfl, fun _ _ => rfl⟩
theorem At1.trans {c : Nat} {w w' w'' : World} (h : At1 c w w') (h' : At1 c w' w'') : At1 c w w'' :=
  ⟨h'.tape.trans h.tape, h'.os.trans h.os, h'.output.trans h.output, h'.size.trans h.size, fun k hk => (h'.other k hk).trans (h.other k hk)⟩

/-- A row of stores. -/
theorem does_storeCells {c o : Nat} : ∀ (L : List Value) (i : Nat) (w : World) (arr : Array Value) (e : TypeId) (fr : Nat × Nat), w.heap[c]? = some (.cells arr e fr) → Unfrozen fr arr.size → o + i + L.length ≤ arr.size → (∀ v ∈ L, v.oneCell' = true) →
    ∃ w' arr', Does P (storeCells ⟨c, o, none⟩ L i) w () w' ∧ At1 c w w' ∧ w'.heap[c]? = some (.cells arr' e fr) ∧ arr'.size = arr.size ∧ ∀ j : Nat, arr'[j]? = if o + i ≤ j ∧ j < o + i + L.length then L[j - (o + i)]? else arr[j]?
  | [], i, w, arr, e, fr, hc, hfr, hsz, hv => ⟨w, arr, .pure _ _, At1.refl c w, hc, rfl, fun j => by simp; intro h1 h2; omega⟩
  | v :: L, i, w, arr, e, fr, hc, hfr, hsz, hv => by
    simp only [List.length_cons] at hsz
    have hlt : o + i < arr.size := by omega
    have hone : v.oneCell' = true := hv v (by simp)
    have hadd : (Addr.add ⟨c, o, none⟩ i) = ⟨c, o + i, none⟩ := add_none c o i
    have hcell : w.cell? ⟨c, o + i, none⟩ = some arr[o + i] := by simp [World.cell?, hc, hlt]
    have hnf : w.frozen? ⟨c, o + i, none⟩ = false := by
      obtain ⟨lo, hi⟩ := fr
      simp only [World.frozen?, hc]
      have := hfr (o + i) hlt
      simp only at this
      rw [← Bool.not_eq_true]
      simpa using this
    let w1 := w.setCell ⟨c, o + i, none⟩ v
    have hw1 : w1.heap[c]? = some (.cells (arr.setIfInBounds (o + i) v) e fr) := by
      simp [w1, World.setCell, Array.getElem?_modify, hc]
    have hat : At1 c w w1 := ⟨rfl, rfl, rfl, by simp [w1, World.setCell], fun k hk => by
      simp only [w1, World.setCell, Array.getElem?_modify]
      rw [if_neg (fun e => hk e.symm)]⟩
    have hst : Does P (store (Addr.add ⟨c, o, none⟩ i) v) w () w1 := by
      rw [hadd]
      refine .of_calm ?_ (calm_store _ _ _)
      cases v <;> first
        | (simp [Value.oneCell'] at hone; done)
        | simp [store, Sem.run, hcell, hnf, w1]
    obtain ⟨w', arr', d1, d2, d3, d4, d5⟩ := does_storeCells (c := c) (o := o) L (i + 1) w1 _ e fr hw1 (by simpa using hfr) (by simp; omega) (fun u hu => hv u (by simp [hu]))
    refine ⟨w', arr', .bind hst d1, hat.trans d2, d3, by rw [d4]; simp, fun j => ?_⟩
    rw [d5, Array.getElem?_setIfInBounds]
    simp only [List.length_cons]
    by_cases e1 : o + i = j
    · subst e1
      rw [if_neg (by omega), if_pos rfl, if_pos hlt, if_pos (by omega)]
      simp
    · rw [if_neg e1]
      by_cases e2 : o + (i + 1) ≤ j ∧ j < o + (i + 1) + L.length
      · rw [if_pos e2, if_pos (by omega)]
        have : j - (o + i) = (j - (o + (i + 1))) + 1 := by omega
        rw [this, List.getElem?_cons_succ]
      · rw [if_neg e2, if_neg (by omega)]

theorem vrs_one {l : List AV} {L : List Value} (hl : VRs env l L) (hs : l.all AV.scalar = true) : ∀ v ∈ L, v.oneCell' = true := by
  intro V hV
  obtain ⟨i, hi, rfl⟩ := List.getElem_of_mem hV
  obtain ⟨v, V', h1, h2, h3⟩ := vrs_get' hl (by rw [hl.length]; exact hi : i < l.length)
  rw [List.getElem?_eq_getElem hi] at h2
  cases h2
  rw [← h3.scalar]
  exact List.all_eq_true.1 hs v (List.mem_of_getElem? h1)

theorem aPut_some {b o : Nat} {l : List AV} (hh : aPut h b o l = some h') : ∃ e n c op, h.t.get b = some (.cells e n c op false) ∧ o + l.length ≤ n ∧ l.all AV.scalar = true ∧ h' = { h with t := h.t.set b (.cells e n (c.puts o l) op false) } := by
  unfold aPut at hh
  split at hh
  · rename_i e n c op hb
    split at hh
    · rename_i hc
      simp only [Bool.and_eq_true, decide_eq_true_eq] at hc
      simp only [Option.some.injEq] at hh
      exact ⟨e, n, c, op, hb, hc.1, hc.2, hh.symm⟩
    · cases hh
  · cases hh

/-- A row written into a block. -/
theorem put_sound (hs : HS P B w₀ K env h s S w) {b o c sh : Nat} {l : List AV} {L : List Value} (hh : aPut h b o l = some h') (hat : env.blk b = .at c sh) (hl : VRs env l L) :
    ∃ w', Does P (storeCells ⟨c, sh + o, none⟩ L 0) w () w' ∧ HS P B w₀ K env h' s S w' ∧ At1 c w w' ∧ ¬ IsChan w c ∧ ¬ IsChan w' c := by
  obtain ⟨e, n, cs, op, hb, hle, hsc, rfl⟩ := aPut_some hh
  have hbr := hs.rel _ _ _ _ hb hat
  obtain ⟨arr, e', fr, b1, b2, b3, ⟨i, hi, b4⟩, b5⟩ := hbr
  obtain ⟨hB, hfr, rfl⟩ := b3 rfl
  have hlen : L.length = l.length := hl.length.symm
  obtain ⟨w', arr', d1, d2, d3, d4, d5⟩ := does_storeCells (P := P) (c := c) (o := sh + o) L 0 w arr e' fr b1 hfr (by omega) (vrs_one hl hsc)
  refine ⟨w', d1, hs.put hb hat hB d2 (by simp) (by simp) ?_, d2, cells_not_chan b1, cells_not_chan d3⟩
  refine ⟨arr', e', fr, d3, fun j hj => ?_, fun _ => ⟨hB, by rw [d4]; exact hfr, rfl⟩, ⟨i, hi, by rw [d4]; exact b4⟩, b5⟩
  rw [T.get_puts, d5]
  by_cases hr : o ≤ j ∧ j < o + l.length
  · rw [if_pos hr, if_pos (by omega)]
    obtain ⟨v, V, h1, h2, h3⟩ := vrs_get' hl (by omega : j - o < l.length)
    refine ⟨v, V, h1, List.all_eq_true.1 hsc v (List.mem_of_getElem? h1), ?_, h3⟩
    rw [← h2]; congr 1; omega
  · rw [if_neg hr, if_neg (by omega)]
    exact b2 j hj

theorem aStore_some {t : TypeId} {b o : Nat} {v : AV} (hh : aStore P h t b o v = some h') : aSize P t = some v.cells.length ∧ aPut h b o v.cells = some h' := by
  unfold aStore at hh
  split at hh
  · rename_i hc
    exact ⟨by simpa using hc, hh⟩
  · cases hh

/-- A store. -/
theorem store_sound (hs : HS P B w₀ K env h s S w) {t : TypeId} {b o : Nat} {v : AV} {V X : Value} (hh : aStore P h t b o v = some h') (hx : VR env (.ptr (some (b, o))) X) (hv : VR env v V) :
    ∃ w', Does P (Instr.storeAt t X V) w () w' ∧ HS P B w₀ K env h' s S w' ∧ ∃ c, At1 c w w' ∧ ¬ IsChan w c ∧ ¬ IsChan w' c := by
  obtain ⟨hsz, hput⟩ := aStore_some hh
  obtain ⟨e, n, cs, op, hb, -⟩ := aPut_some hput
  obtain ⟨c, sh, hat, rfl, -⟩ := hs.at_ptr hb (by simp) hx
  obtain ⟨w', d1, d2, d3⟩ := put_sound hs hput hat hv.cells
  refine ⟨w', ?_, d2, c, d3⟩
  unfold Instr.storeAt
  refine .bind (v := (⟨c, sh + o, none⟩ : Addr)) (.pure _ _) ?_
  unfold storeVar
  refine .bind ((ret_size hsz).does w) ?_
  have : v.cells.length = V.cells.size := by rw [hv.cells.length]; simp
  rw [if_neg (by rw [this]; simp)]
  exact d1

/-! ### a block is given up, and its place taken by another -/
def Env.kill (env : Env) (b : Nat) : Env := { blk := fun k => if k = b then .dead else env.blk k, ex := env.ex }
theorem Env.le_kill (b : Nat) : env.le (env.kill b) := by
  refine ⟨fun k c sh hk => ?_, fun k hk => ?_⟩ <;> simp only [Env.kill] <;> by_cases e : k = b
  · right; simp [e]
  · left; simp [e, hk]
  · simp [e]
  · simp [e, hk]

theorem HS.kill (hs : HS P B w₀ K env h s S w) {b c sh : Nat} {e : TypeId} {n : Nat} {cs : T AV} {op : Bool} (hb : h.t.get b = some (.cells e n cs op false)) (hat : env.blk b = .at c sh) :
    HS P B w₀ K (env.kill b) { h with t := h.t.set b .dead } s S w := by
  have hle := Env.le_kill (env := env) b
  have hbr := hs.rel _ _ _ _ hb hat
  have hBc : B ≤ c := by
    obtain ⟨arr, e', fr, b1, b2, b3, _⟩ := hbr
    exact (b3 rfl).1
  refine ⟨hs.tape, hs.os, hs.output, hs.size, hs.base, hs.bound, hs.gb, fun k k' c' sh1 sh2 hBc' hk hk' => ?_, fun k hk => ?_, fun k hk => ?_, fun k bk c' sh' hk hat' => ?_, fun k hk => ?_, fun g hg => ?_, ?_, fun k hk => ?_, fun k hk => ?_⟩
  · simp only [Env.kill] at hk hk'
    split at hk
    · cases hk
    · split at hk'
      · cases hk'
      · exact hs.inj _ _ _ _ _ hBc' hk hk'
  · simp only [T.get_set] at hk
    split at hk
    · cases hk
    · rename_i hne
      simp only [Env.kill]
      rw [if_neg (fun e => hne e.symm)]
      exact hs.unal k hk
  · simp only [T.get_set]
    have hne : b ≠ k := fun e => by subst e; have := hs.next b hk; rw [hb] at this; cases this
    rw [if_neg hne]
    exact hs.next k hk
  · simp only [T.get_set] at hk
    simp only [Env.kill] at hat'
    split at hat'
    · cases hat'
    · rename_i hne
      rw [if_neg (fun e => hne e.symm)] at hk
      exact (hs.rel k bk c' sh' hk hat').mono hle rfl
  · simp only [Env.kill] at hk
    simp only [T.get_set]
    split at hk
    · rename_i e; rw [if_pos e.symm]
    · rename_i hne
      rw [if_neg (fun e => hne e.symm)]
      exact hs.dead k hk
  · have h1 := hs.glob g hg
    have hne : g ≠ b := fun e => by
      subst e
      rw [hat] at h1; cases h1
      have := hs.gb
      omega
    simp only [Env.kill, if_neg hne]
    exact h1
  · have hsnd := hs.snd
    cases s <;> cases S <;> first | exact trivial | exact hsnd.elim | skip
    rename_i x y
    obtain ⟨b1, vs⟩ := x
    obtain ⟨c1, Vs⟩ := y
    have hne : b ≠ b1 := fun e => by subst e; have := hsnd.2.2; rw [hb] at this; cases this
    refine ⟨?_, hsnd.2.1.mono hle, ?_⟩
    · simp only [Env.kill, if_neg (fun e => hne e.symm : ¬ b1 = b)]; exact hsnd.1
    · simp only [T.get_set, if_neg hne]; exact hsnd.2.2
  · simp only [T.get_set] at hk
    split at hk
    · cases hk
    · exact hs.actv k hk
  · have hne : k ≠ b := fun e => by subst e; have := (hs.hol k hk).1; rw [hat] at this; cases this
    simp only [Env.kill, if_neg hne]
    exact hs.hol k hk

/-- A hole is filled by a place that nobody holds. -/
theorem HS.fillAt (hs : HS P B w₀ K env h s S w) {b c sh ex : Nat} {blk : ABlk} (hb : h.t.get b = some blk) (hat : env.blk b = .hole) (hbK : b ∉ K) (hfree : ∀ k sh', env.blk k ≠ .at c sh') (hBc : B ≤ c) (h1 : At1 c w w')
    (hnew : BR P B (env.fill b c sh ex) w' b c sh blk) : HS P B w₀ K (env.fill b c sh ex) h s S w' := by
  have hle := Env.le_fill (c := c) (sh := sh) (ex := ex) hat
  refine ⟨h1.tape.trans hs.tape, h1.os.trans hs.os, h1.output.trans hs.output, by rw [h1.size]; exact hs.size, fun k hk => ?_, hs.bound, hs.gb, fun k k' c' sh1 sh2 hBc' hk hk' => ?_, fun k hk => ?_, hs.next, fun k bk c' sh' hk hat' => ?_, fun k hk => ?_, fun g hg => ?_, ?_, hs.actv, fun k hk => ?_⟩
  · rw [h1.other k (by omega)]; exact hs.base k hk
  · simp only [Env.fill] at hk hk'
    by_cases e : k = b <;> by_cases e' : k' = b
    · rw [e, e']
    · simp only [e, e', if_true, if_false, Slot.at.injEq] at hk hk'
      rw [← hk.1] at hk'
      exact absurd hk' (hfree _ _)
    · simp only [e, e', if_true, if_false, Slot.at.injEq] at hk hk'
      rw [← hk'.1] at hk
      exact absurd hk (hfree _ _)
    · simp only [e, e', if_false] at hk hk'
      exact hs.inj _ _ _ _ _ hBc' hk hk'
  · have : k ≠ b := fun e => by subst e; rw [hb] at hk; cases hk
    simp only [Env.fill, this, if_false]; exact hs.unal k hk
  · by_cases e : k = b
    · subst e
      simp only [Env.fill, if_true, Slot.at.injEq] at hat'
      obtain ⟨rfl, rfl⟩ := hat'
      rw [hb] at hk; cases hk
      exact hnew
    · have hat2 : env.blk k = .at c' sh' := by simpa only [Env.fill, e, if_false] using hat'
      have hne : c' ≠ c := fun e' => by subst e'; exact hfree _ _ hat2
      exact ((hs.rel k bk c' sh' hk hat2).mono hle (by simp [Env.fill, e])).world (h1.other c' hne)
  · by_cases e : k = b
    · subst e; simp [Env.fill] at hk
    · simp only [Env.fill, e, if_false] at hk; exact hs.dead k hk
  · have h2 := hs.glob g hg
    have : g ≠ b := fun e => by subst e; rw [hat] at h2; cases h2
    simp only [Env.fill, this, if_false]; exact h2
  · have hsnd := hs.snd
    cases s <;> cases S <;> first | exact trivial | exact hsnd.elim | skip
    refine ⟨?_, hsnd.2.1.mono hle, hsnd.2.2⟩
    rcases hle.at_ _ _ _ hsnd.1 with ⟨h3, _⟩ | h3
    · exact h3
    · have h2 := hsnd.1
      simp only [Env.fill] at h3
      split at h3
      · cases h3
      · rw [h2] at h3; cases h3
  · have : k ≠ b := fun e => hbK (e ▸ hk)
    simp only [Env.fill, this, if_false]; exact hs.hol k hk
end
end
end Go.Cx

/-
  APPEND, COPY, CLEAR.
-/
namespace Go.Cx
noncomputable section
open Go Go.Conc
section
variable {P : Program} {B : Nat} {w₀ : World} {K : List Nat} {env : Env} {h h' : AH} {s : Option (Nat × List AV)} {S : Option (Nat × List Value)} {w w' : World} {ρ : Operand → Option AV} {a : Act} {v : AV} {o : Oper}

/-- What is shown of an operation that yields a value (here of any program text). -/
def ValS (P : Program) (B : Nat) (w₀ : World) (K : List Nat) (env : Env) (h' : AH) (s : Option (Nat × List AV)) (S : Option (Nat × List Value)) (w : World) (sem : Sem Value) (v : AV) : Prop :=
  ∃ env' V w', env.le env' ∧ Does P sem w V w' ∧ VR env' v V ∧ HS P B w₀ K env' h' s S w' ∧ ∀ es : Array Event, (∀ e ∈ es, EvOk e) → Own w w' es

theorem hs_hole (hs : HS P B w₀ K env h s S w) : env.blk h.n = .hole := hs.unal _ (hs.next _ (Nat.le_refl _))
theorem hs_notK (hs : HS P B w₀ K env h s S w) : h.n ∉ K := fun hk => Nat.lt_irrefl _ (hs.hol _ hk).2
theorem push_get (h : AH) (blk : ABlk) : (h.push blk).t.get h.n = some blk := by simp [AH.push, T.get_set]

/-- A block made, and given to the interpreter at once. -/
theorem newS_val (hs : HS P B w₀ K env h s S w) {sem : Sem Next} {mk : Nat → AV} {blk : ABlk} (hp : Plain blk) (hn : NewS P B env w sem mk blk) :
    ∃ env' V w', env.le env' ∧ Does P sem w (.value V) w' ∧ VR env' (mk h.n) V ∧ HS P B w₀ K env' (h.push blk) s S w' ∧ ∀ es : Array Event, (∀ e ∈ es, EvOk e) → Own w w' es := by
  obtain ⟨V, w', obj, ex, hd, hn1, hb⟩ := hn
  obtain ⟨h1, h2⟩ := hb h.n (hs_hole hs)
  have hc : blk ≠ .chan 1 := fun e => by subst e; exact hp
  exact ⟨_, V, w', Env.le_fill (hs_hole hs), hd, h2, (hs.apush hc).fill (push_get h blk) (hs_hole hs) (hs_notK hs) hn1 h1, fun es he => own_new' hn1 he⟩

theorem float_val (hf : isFloat o = true) (ha : aop P ρ o h = some (.val v, h')) (hev : EvR env ρ a) (hs : HS P B w₀ K env h s S w) (fn : FuncId) :
    ∃ env' V w', env.le env' ∧ (execOp a.eval o).run P w = .ok (.value V) w' ∧ VR env' v V ∧ HS P B w₀ K env' h' s S w' ∧ Own w w' (listed P fn a o w) := by
  have hB : B ≤ w.heap.size := by have := hs.size; have := hs.bound; omega
  rcases float_sound hB hf ha hev hs with ⟨rfl, V, hd, hv⟩ | ⟨mk, blk, rfl, rfl, _, hp, hn⟩
  · exact ⟨env, V, w, Env.le_refl env, hd.1, hv, hs, own_same' rfl (hd.listed fn)⟩
  · obtain ⟨env', V, w', h1, h2, h3, h4, h5⟩ := newS_val hs hp hn
    exact ⟨env', V, w', h1, h2.1, h3, h4, h5 _ (h2.listed fn)⟩

/-! ### the cells that are read -/
theorem ofBytes_all (l : List UInt8) : (ofBytes l).all AV.scalar = true := by
  unfold ofBytes
  rw [List.all_map]
  exact List.all_eq_true.2 fun _ _ => rfl

theorem first_sound (hs : HS P B w₀ K env h s S w) {x : AV} {X : Value} {size n : Nat} {l : List AV} (hh : aFirst h size n x = some l) (hx : VR env x X) (hl : l.length = n * size) (hn : aLenOf x = some n) :
    ∃ L : Array Value, Does P (Builtin.firstCells size n X) w L w ∧ VRs env l L.toList ∧ l.all AV.scalar = true := by
  unfold aFirst at hh
  split at hh
  · rename_i b off len cap op
    simp only [aLenOf, Option.some.injEq] at hn
    subst hn
    have key : ∀ c sh ad cp, env.blk b = .at c sh → (len = 0 ∨ ad = ⟨c, sh + off, none⟩) → X = .slice (some ad) len cp → ∃ L : Array Value, Does P (Builtin.firstCells size len X) w L w ∧ VRs env l L.toList ∧ l.all AV.scalar = true := by
      rintro c sh ad cp hat had rfl
      unfold aCellsAt at hh
      split at hh
      · rename_i el nb cs op' ro hb
        split at hh
        · rename_i hle
          obtain ⟨L, g1, g2, g3, g4⟩ := gets_run (hs.rel _ _ _ _ hb hat) hle hh
          refine ⟨L.toArray, ?_, by simpa using g1, g2⟩
          have hld : (loadCells ad (len * size)).run P w = .ok L.toArray w := by
            rcases had with e0 | rfl
            · subst e0
              have : L = [] := by simpa using g3
              subst this
              simp only [Nat.zero_mul]
              rfl
            · exact run_loadCells g3.symm g4
          exact .of_calm hld (calm_loadCells _ _)
        · cases hh
      · cases hh
    cases hx with
    | @sl _ _ _ _ c sh e _ ad hat he ha hll =>
      refine key c sh ad _ hat ?_ rfl
      rcases ha with h0 | h0
      · left; omega
      · right; exact h0
    | slD hd =>
      have := hs.dead _ hd
      unfold aCellsAt at hh
      rw [this] at hh
      cases hh
  · simp only [Option.some.injEq] at hh; subst hh
    cases hx with
    | slN => exact ⟨#[], .pure _ _, .nil, rfl⟩
  · rename_i st
    simp only [Option.some.injEq] at hh; subst hh
    simp only [aLenOf, Option.some.injEq] at hn
    subst hn
    rw [hx.inj_str]
    refine ⟨((⟨st.toArray⟩ : ByteArray).extract 0 st.length).data.map fun b => .int .u8 b.toNat, .pure _ _, ?_, by simp [ofBytes, AV.scalar]⟩
    have e : ((⟨st.toArray⟩ : ByteArray).extract 0 st.length).data = st.toArray := by
      rw [ByteArray.data_extract]
      simp
    rw [e]
    refine .of_get (by simp [ofBytes]) fun i v V hv hV => ?_
    simp only [ofBytes, List.take_length, List.getElem?_map, Array.toList_map] at hv hV
    cases hi : st[i]? with
    | none => simp [hi] at hv
    | some b =>
      simp [hi] at hv hV
      subst hv; subst hV
      exact .int _ _
  · cases hh

/-- Fewer cells than are there. -/
theorem firstN_sound (hs : HS P B w₀ K env h s S w) {x : AV} {X : Value} {size n m : Nat} {l : List AV} (hh : aFirst h size n x = some l) (hx : VR env x X) (hn : aLenOf x = some m) (hnm : n ≤ m) :
    ∃ L : Array Value, Does P (Builtin.firstCells size n X) w L w ∧ VRs env l L.toList ∧ l.all AV.scalar = true := by
  unfold aFirst at hh
  split at hh
  · rename_i b off len cap op
    simp only [aLenOf, Option.some.injEq] at hn
    subst hn
    have key : ∀ c sh ad cp, env.blk b = .at c sh → (len = 0 ∨ ad = ⟨c, sh + off, none⟩) → X = .slice (some ad) len cp → ∃ L : Array Value, Does P (Builtin.firstCells size n X) w L w ∧ VRs env l L.toList ∧ l.all AV.scalar = true := by
      rintro c sh ad cp hat had rfl
      unfold aCellsAt at hh
      split at hh
      · rename_i el nb cs op' ro hb
        split at hh
        · rename_i hle
          obtain ⟨L, g1, g2, g3, g4⟩ := gets_run (hs.rel _ _ _ _ hb hat) hle hh
          refine ⟨L.toArray, ?_, by simpa using g1, g2⟩
          have hld : (loadCells ad (n * size)).run P w = .ok L.toArray w := by
            rcases had with e0 | rfl
            · have e1 : n = 0 := by omega
              subst e1
              have : L = [] := by simpa using g3
              subst this
              simp only [Nat.zero_mul]
              rfl
            · exact run_loadCells g3.symm g4
          exact .of_calm hld (calm_loadCells _ _)
        · cases hh
      · cases hh
    cases hx with
    | @sl _ _ _ _ c sh e _ ad hat he ha hll =>
      refine key c sh ad _ hat ?_ rfl
      rcases ha with h0 | h0
      · left; omega
      · right; exact h0
    | slD hd =>
      have := hs.dead _ hd
      unfold aCellsAt at hh
      rw [this] at hh
      cases hh
  · simp only [Option.some.injEq] at hh; subst hh
    cases hx with
    | slN => exact ⟨#[], .pure _ _, .nil, rfl⟩
  · rename_i st
    simp only [Option.some.injEq] at hh; subst hh
    rw [hx.inj_str]
    refine ⟨((⟨st.toArray⟩ : ByteArray).extract 0 n).data.map fun b => .int .u8 b.toNat, .pure _ _, ?_, ofBytes_all _⟩
    have e : ((⟨st.toArray⟩ : ByteArray).extract 0 n).data = (st.take n).toArray := by
      rw [ByteArray.data_extract]
      simp
    rw [e]
    refine .of_get (by simp [ofBytes]) fun i v V hv hV => ?_
    simp only [ofBytes, List.getElem?_map, Array.toList_map] at hv hV
    cases hi : (st.take n)[i]? with
    | none => simp [hi] at hv
    | some b =>
      simp [hi] at hv hV
      subst hv; subst hV
      exact .int _ _
  · cases hh

theorem ret_lenOf {x : AV} {X : Value} {n : Nat} (hx : VR env x X) (hn : aLenOf x = some n) : Ret P (Builtin.lenOf X) n := by
  cases hx <;> simp [aLenOf] at hn <;> subst hn <;> first
    | exact .pure _
    | (rename_i l; have : (⟨l.toArray⟩ : ByteArray).size = l.length := by simp [ByteArray.size]
       simp only [Builtin.lenOf, this]; exact .pure _)

/-! ### copy and clear -/
theorem copy_sound (hs : HS P B w₀ K env h s S w) {ts : Array TypeId} {ty : TypeId} {args : List AV} {ARGS : Array Value} {r : ARes} (hh : aCopy P h ts.toList args = some (r, h')) (hx : VRs env args ARGS.toList) :
    ∃ v, r = .val v ∧ ValS P B w₀ K env h' s S w (Builtin.copy_ ts ty ARGS) v := by
  unfold aCopy at hh
  split at hh
  · rename_i dt tl p dl cp op src hts
    split at hh
    · rename_i elem hu
      split at hh
      · rename_i size sl hsz hsl
        split at hh
        · rename_i l hl
          obtain ⟨ARGS⟩ := ARGS
          simp only at hx
          cases hx with
          | @cons _ D _ L hd hx =>
            cases hx with
            | @cons _ SV _ L2 hsv hx =>
              cases hx
              have hts0 : ts[0]? = some dt := by rw [← Array.getElem?_toList, hts]; rfl
              obtain ⟨Lc, g1, g2, g3⟩ := firstN_sound (P := P) hs hl hsv hsl (Nat.min_le_left sl dl)
              have hmin : Nat.min sl dl = min sl dl := rfl
              have hstart : ∀ (base : Option Addr) (C : Nat), D = .slice base dl C → ∀ w', Does P (match base with | some a => do storeCells a Lc.toList; Pure.pure (goInt ((min sl dl : Nat) : Int)) | none => Pure.pure (goInt ((min sl dl : Nat) : Int)) : Sem Value) w (goInt ((min sl dl : Nat) : Int)) w' → Does P (Builtin.copy_ ts ty ⟨[D, SV]⟩) w (goInt ((min sl dl : Nat) : Int)) w' := by
                rintro base C rfl w' hw
                unfold Builtin.copy_
                simp only [hts0]
                refine .bind ((ret_und hu).does w) ?_
                simp only []
                refine .bind ((ret_lenOf hsv hsl).does w) ?_
                refine .bind ((ret_size hsz).does w) ?_
                refine .bind g1 ?_
                cases base <;> exact hw
              have hnone : ∀ base C, D = .slice base dl C → Lc.toList = [] → Does P (Builtin.copy_ ts ty ⟨[D, SV]⟩) w (goInt ((min sl dl : Nat) : Int)) w := by
                intro base C hD hnil
                refine hstart base C hD w ?_
                cases base with
                | none => exact .pure _ _
                | some ad => rw [hnil]; exact .bind (.pure _ _) (.pure _ _)
              split at hh
              · rename_i b off
                split at hh
                · rename_i hemp
                  cases hh
                  have hl0 : l = [] := by simpa using hemp
                  subst hl0
                  have hLc : Lc.toList = [] := by cases g2'' : Lc.toList with | nil => rfl | cons x y => rw [g2''] at g2; cases g2
                  have hD : ∃ base C, D = .slice base dl C := by cases hd <;> exact ⟨_, _, rfl⟩
                  obtain ⟨base, C, hD⟩ := hD
                  exact ⟨_, rfl, env, _, w, Env.le_refl env, hnone base C hD hLc, .int _ _, hs, fun es he => own_same' rfl he⟩
                · rename_i hemp
                  obtain ⟨h1, hput, hr⟩ := Option.map_eq_some_iff.1 hh
                  cases hr
                  obtain ⟨e, n, cs, op', hb, hle, -⟩ := aPut_some hput
                  cases hd with
                  | @sl _ _ _ _ c sh e _ ad hat he ha hll =>
                    have had : ad = ⟨c, sh + off, none⟩ := by
                      rcases ha with h0 | h0
                      · exfalso
                        have hz : dl = 0 := by omega
                        subst hz
                        have : l.length = 0 := by
                          have hmm : min sl 0 = 0 := by omega
                          rw [hmm] at hl
                          unfold aFirst at hl
                          split at hl
                          · unfold aCellsAt at hl
                            split at hl
                            · split at hl
                              · simp [T.gets] at hl; subst hl; rfl
                              · cases hl
                            · cases hl
                          · simp at hl; subst hl; rfl
                          · simp [ofBytes] at hl; subst hl; rfl
                          · cases hl
                        exact hemp (by simp at this; simp [this])
                      · exact h0
                    subst had
                    obtain ⟨w', d1, d2, d3, d4, d5⟩ := put_sound hs hput hat g2
                    exact ⟨_, rfl, env, _, w', Env.le_refl env, hstart _ _ rfl w' (.bind d1 (.pure _ _)), .int _ _, d2, fun es he => own_put' d3 d4 d5 he⟩
                  | slD hdd =>
                    rw [hs.dead _ hdd] at hb; cases hb
              · cases hh
                cases hd with
                | slN => exact ⟨_, rfl, env, _, w, Env.le_refl env, hstart none 0 rfl w (.pure _ _), .int _ _, hs, fun es he => own_same' rfl he⟩
        · cases hh
      · cases hh
    · cases hh
  · cases hh
end
end
end Go.Cx

/-
  APPEND, CLEAR.
-/
namespace Go.Cx
noncomputable section
open Go Go.Conc
section
variable {P : Program} {B : Nat} {w₀ : World} {K : List Nat} {env : Env} {h h' : AH} {s : Option (Nat × List AV)} {S : Option (Nat × List Value)} {w w' : World} {ρ : Operand → Option AV} {a : Act} {v : AV} {o : Oper}

theorem HS.drawn (hs : HS P B w₀ K env h s S w) (k : Nat) : HS P B w₀ K env h s S { w with drawn := k } :=
  ⟨hs.tape, hs.os, hs.output, hs.size, hs.base, hs.bound, hs.gb, hs.inj, hs.unal, hs.next, hs.rel, hs.dead, hs.glob, hs.snd, hs.actv, hs.hol⟩

/-- Which. -/
def newSem (zeros : Bool) (elem : TypeId) (size n : Nat) (x : Value) : Sem (Array Value) :=
    if !zeros then Builtin.firstCells size n x
    else if n * size = 0 then pure #[]
    else do pure (Builtin.zeroCells (← zeroValue elem).cells n)

theorem appended_sound {elem : TypeId} {size bytes n : Nat} {z x : AV} {xd : TypeDesc} {X : Value} {new : List AV} (hh : aAppended h size bytes z xd x = some (n, new)) (hx : VR env x X) (hnl : new.length = n * size) (hzl : z.cells.length = size) (hza : z.cells.all AV.scalar = true)
    (hz : aZero P elem = some z) : (if aAppended.aInt xd then ∃ k m, X = .int k m ∧ 0 ≤ m ∧ m ≤ 1048576 ∧ m.toNat * bytes ≤ roomMax ∧ n = m.toNat else Ret P (Builtin.lenOf X) n) ∧
      ∀ w, HS P B w₀ K env h s S w → ∃ New : Array Value, Does P (newSem (aAppended.aInt xd) elem size n X) w New w ∧ VRs env new New.toList ∧ new.all AV.scalar = true := by
  obtain ⟨Z, hZ, hzz⟩ := ret_zero hz
  unfold aAppended at hh
  split at hh
  · rename_i hzr
    rw [hzr]
    split at hh
    · rename_i k m
      split at hh
      · rename_i hc
        simp only [Option.some.injEq, Prod.mk.injEq] at hh
        obtain ⟨rfl, rfl⟩ := hh
        obtain ⟨c0, c1, c2⟩ := hc
        rw [hx.inj_int]
        constructor
        · rw [if_pos rfl]
          exact ⟨k, m, rfl, c0, c1, c2, rfl⟩
        · intro w hs
          unfold newSem
          simp only [Bool.not_true, Bool.false_eq_true, if_false]
          have hrep := vrs_rep (hzz env).cells m.toNat
          refine ⟨(Array.range (m.toNat * z.cells.length)).map (fun i => Z.cells[i % Z.cells.size]!), ?_, hrep, aRep_all hza _⟩
          have hlen : z.cells.length = Z.cells.size := by rw [(hzz env).cells.length]; simp
          split
          · rename_i e0
            have : ((Array.range (m.toNat * z.cells.length)).map (fun i => Z.cells[i % Z.cells.size]!)) = #[] := by
              rw [hzl, e0]; simp
            rw [this]
            exact .pure _ _
          · refine .bind (hZ.does w) ?_
            unfold Builtin.zeroCells
            rw [hlen]
            exact .pure _ _
      · cases hh
    · cases hh
  · rename_i hzr
    have hzr : aAppended.aInt xd = false := by simpa using hzr
    rw [hzr]
    split at hh
    · rename_i m hm
      obtain ⟨l, hl, hr⟩ := Option.map_eq_some_iff.1 hh
      cases hr
      refine ⟨?_, fun w hs => ?_⟩
      · rw [if_neg (by simp)]
        exact ret_lenOf hx hm
      · obtain ⟨L, g1, g2, g3⟩ := first_sound (P := P) hs hl hx hnl hm
        exact ⟨L, by unfold newSem; exact g1, g2, g3⟩
    · cases hh

theorem growBy_le {need : Nat} : ∀ (r c : Nat), Builtin.growBy need r c ≤ max c (2 * need + 900)
  | 0, c => by simp [Builtin.growBy]; omega
  | r + 1, c => by
    unfold Builtin.growBy
    split
    · omega
    · have := growBy_le (need := need) r (c + (c + 768) / 4)
      omega
theorem nextcap_le {need C : Nat} (h : C < need) : Builtin.nextslicecap need C ≤ 2 * need + 1000 := by
  unfold Builtin.nextslicecap
  split
  · omega
  · split
    · omega
    · have := growBy_le (need := need) 4 C
      omega

theorem does_askRoom (n : Nat) (w : World) : Does P (askRoom n) w () w := by
  refine .of_calm ?_ (calm_askRoom n)
  unfold askRoom
  split
  · simp [mark, Sem.run]
  · simp

/-- There is room. -/
theorem append_in {ts : Array TypeId} {ty st xt elem : TypeId} {size bytes len n C : Nat} {xd : TypeDesc} {X : Value} {base : Option Addr} {New : Array Value} {w w1 w2 : World} (hts0 : ts[0]? = some st) (hts1 : ts[1]? = some xt) (hu : P.underlying st = some (.slice elem)) (hsz : aSize P elem = some size) (hby : aBytes P elem = some bytes)
    (hxd : P.underlying xt = some xd) (hn : if aAppended.aInt xd then ∃ k m, X = .int k m ∧ 0 ≤ m ∧ m ≤ 1048576 ∧ m.toNat * bytes ≤ roomMax ∧ n = m.toNat else Ret P (Builtin.lenOf X) n)
    (hle : len + n ≤ C) (hnew : Does P (newSem (aAppended.aInt xd) elem size n X) w New w1) (hst : match base with | some ad => Does P (storeCells (ad.add (len * size)) New.toList) w1 () w2 | none => w2 = w1) :
    Does P (Builtin.append_ ts ty ⟨[.slice base len C, X]⟩) w (.slice base (len + n) C) w2 := by
  obtain ⟨i, hi, rfl⟩ := Option.map_eq_some_iff.1 hby
  unfold Builtin.append_
  simp only [hts0, hts1]
  refine .bind ((ret_und hu).does w) ?_
  simp only []
  refine .bind ((ret_size hsz).does w) ?_
  refine .bind ((ret_und hxd).does w) ?_
  refine .bind (v := aAppended.aInt xd) (w' := w) ?_ ?_
  · cases xd <;> exact .pure _ _
  have hlast : Does P (match base with
      | some ad => do storeCells (ad.add (len * size)) New.toList; Pure.pure (Value.slice base (len + n) C)
      | none => Pure.pure (Value.slice base (len + n) C)) w1 (.slice base (len + n) C) w2 := by
    cases base with
    | none => simp only at hst; subst hst; exact .pure _ _
    | some ad => exact .bind hst (.pure _ _)
  cases hz : aAppended.aInt xd with
  | true =>
    rw [hz] at hn hnew
    rw [if_pos rfl] at hn
    obtain ⟨k, m, rfl, m0, m1, m2, rfl⟩ := hn
    rw [if_pos rfl]
    refine .bind ((ret_asInt _ _).does w) ?_
    simp only [wrap_small m0 (by omega)]
    rw [if_neg (by omega)]
    refine .bind ((ret_info hi).does w) ?_
    have hm : ¬ (m * (i.bytes : Int) > 2 ^ 48) := by
      have h2 : m = (m.toNat : Int) := by omega
      rw [h2, ← Int.natCast_mul]
      unfold roomMax at m2
      omega
    rw [if_neg hm]
    refine .bind (.pure _ _) ?_
    rw [if_pos hle]
    refine .bind hnew ?_
    cases base <;> exact hlast
  | false =>
    rw [hz] at hn hnew
    rw [if_neg (by simp)] at hn
    rw [if_neg (by simp)]
    refine .bind (hn.does w) ?_
    rw [if_pos hle]
    refine .bind hnew ?_
    cases base <;> exact hlast

/-- There is none: another row. -/
theorem append_out {ts : Array TypeId} {ty st xt elem : TypeId} {size bytes len n C : Nat} {Z : Value} {xd : TypeDesc} {X : Value} {base : Option Addr} {Old New : Array Value} {w : World} (hts0 : ts[0]? = some st) (hts1 : ts[1]? = some xt) (hu : P.underlying st = some (.slice elem)) (hsz : aSize P elem = some size) (hby : aBytes P elem = some bytes)
    (hxd : P.underlying xt = some xd) (hn : if aAppended.aInt xd then ∃ k m, X = .int k m ∧ 0 ≤ m ∧ m ≤ 1048576 ∧ m.toNat * bytes ≤ roomMax ∧ n = m.toNat else Ret P (Builtin.lenOf X) n)
    (hle : ¬ len + n ≤ C) (hroom : ¬ roomMax < (2 * (len + n) + 1000) * (bytes + 1)) (hZ : Ret P (zeroValue elem) Z)
    (hold : Does P (Builtin.firstCells size len (.slice base len C)) { w with drawn := w.drawn + 1 } Old { w with drawn := w.drawn + 1 })
    (hnew : Does P (newSem (aAppended.aInt xd) elem size n X) { w with drawn := w.drawn + 1 } New { w with drawn := w.drawn + 1 }) :
    ∃ cap, len + n ≤ cap ∧ Does P (Builtin.append_ ts ty ⟨[.slice base len C, X]⟩) w (.slice (some ⟨w.heap.size, 0, none⟩) (len + n) cap)
      { w with drawn := w.drawn + 1, heap := w.heap.push (.cells (Old ++ New ++ Builtin.zeroCells Z.cells (cap - (len + n))) elem) } := by
  obtain ⟨i, hi, rfl⟩ := Option.map_eq_some_iff.1 hby
  obtain ⟨cap, hcap, hch⟩ := does_choose_cap (P := P) (len + n) C elem w
  refine ⟨cap, hcap, ?_⟩
  unfold Builtin.append_
  simp only [hts0, hts1]
  refine .bind ((ret_und hu).does w) ?_
  simp only []
  refine .bind ((ret_size hsz).does w) ?_
  refine .bind ((ret_und hxd).does w) ?_
  refine .bind (v := aAppended.aInt xd) (w' := w) ?_ ?_
  · cases xd <;> exact .pure _ _
  have hsmall : 2 * (len + n) + 1000 ≤ roomMax := by
    have := Nat.le_mul_of_pos_right (2 * (len + n) + 1000) (Nat.succ_pos i.bytes)
    exact Nat.le_trans this (Nat.le_of_not_lt hroom)
  have hmax : ∀ p : Prop, ¬ (((len + n : Nat) : Int) > IntKind.i64.max ∧ p) := by
    intro p hp
    have h3 : IntKind.i64.max = 9223372036854775807 := by decide
    rw [h3] at hp
    unfold roomMax at hsmall
    omega
  have hnc : ¬ (Builtin.nextslicecap (len + n) C * i.bytes > 2 ^ 48) := by
    have h1 := nextcap_le (need := len + n) (C := C) (by omega)
    have h2 : Builtin.nextslicecap (len + n) C * i.bytes ≤ (2 * (len + n) + 1000) * (i.bytes + 1) := Nat.mul_le_mul h1 (by omega)
    unfold roomMax at hroom
    omega
  cases hz : aAppended.aInt xd with
  | true =>
    rw [hz] at hn hnew
    rw [if_pos rfl] at hn
    obtain ⟨k, m, rfl, m0, m1, m2, rfl⟩ := hn
    rw [if_pos rfl]
    refine .bind ((ret_asInt _ _).does w) ?_
    simp only [wrap_small m0 (by omega)]
    rw [if_neg (by omega)]
    refine .bind ((ret_info hi).does w) ?_
    have hm : ¬ (m * (i.bytes : Int) > 2 ^ 48) := by
      have h2 : m = (m.toNat : Int) := by omega
      rw [h2, ← Int.natCast_mul]
      unfold roomMax at m2
      omega
    rw [if_neg hm]
    refine .bind (.pure _ _) ?_
    rw [if_neg hle]
    refine .bind ((ret_info hi).does w) ?_
    rw [if_neg (hmax _)]
    refine .bind ((ret_info hi).does w) ?_
    rw [if_neg hnc]
    refine .bind hch (.bind ((ret_info hi).does _) (.bind (does_askRoom _ _) (.bind hold (.bind hnew (.bind (hZ.does _) (.bind (does_newRow _ _ _) (.pure _ _)))))))
  | false =>
    rw [hz] at hn hnew
    rw [if_neg (by simp)] at hn
    rw [if_neg (by simp)]
    refine .bind (hn.does w) ?_
    rw [if_neg hle]
    refine .bind ((ret_info hi).does w) ?_
    rw [if_neg (hmax _)]
    refine .bind ((ret_info hi).does w) ?_
    rw [if_neg hnc]
    refine .bind hch (.bind ((ret_info hi).does _) (.bind (does_askRoom _ _) (.bind hold (.bind hnew (.bind (hZ.does _) (.bind (does_newRow _ _ _) (.pure _ _)))))))

/-- A new row, open behind its end. -/
theorem newrow_sound {elem : TypeId} {i : TypeInfo} {l : List AV} {L rest : Array Value} {m ex k : Nat} (hs : HS P B w₀ K env h s S w) (hi : P.info? elem = some i) (hl : VRs env l L.toList) (hsc : l.all AV.scalar = true) (hrest : rest.size = ex * i.size) :
    ∃ env', env.le env' ∧ VR env' (.slice (some (h.n, 0)) m m true) (.slice (some ⟨w.heap.size, 0, none⟩) m (m + ex)) ∧ HS P B w₀ K env' (h.push (.cells elem l.length (T.ofList l) true false)) s S { w with drawn := k, heap := w.heap.push (.cells (L ++ rest) elem) } ∧
      ∀ es : Array Event, (∀ e ∈ es, EvOk e) → Own w { w with drawn := k, heap := w.heap.push (.cells (L ++ rest) elem) } es := by
  have hn : New1 (.cells (L ++ rest) elem) w { w with drawn := k, heap := w.heap.push (.cells (L ++ rest) elem) } := ⟨rfl, rfl, rfl, rfl⟩
  have hB : B ≤ w.heap.size := by have := hs.size; have := hs.bound; omega
  have hlen : l.length = L.size := by rw [hl.length]; simp
  refine ⟨env.fill h.n w.heap.size 0 ex, Env.le_fill (hs_hole hs), vr_openSlice, (hs.apush (by simp)).fill (push_get h _) (hs_hole hs) (hs_notK hs) hn ?_, fun es he => own_new' hn he⟩
  refine br_row hB hi hsc hn.new (fun j hj => ?_) (unfrozen_0 _) (fun hf => by cases hf) (by simp only [if_true, Array.size_append, hrest]; omega)
  obtain ⟨v, V, h1, h2, h3⟩ := vrs_get' hl hj
  refine ⟨v, V, h1, ?_, h3.mono (Env.le_fill (hs_hole hs))⟩
  rw [Array.getElem?_append, if_pos (by omega)]
  simpa using h2

theorem append_sound (hs : HS P B w₀ K env h s S w) {ts : Array TypeId} {ty : TypeId} {args : List AV} {ARGS : Array Value} {r : ARes} (hh : aAppend P h ts.toList args = some (r, h')) (hx : VRs env args ARGS.toList) :
    ∃ v, r = .val v ∧ ValS P B w₀ K env h' s S w (Builtin.append_ ts ty ARGS) v := by
  unfold aAppend at hh
  split at hh
  · rename_i st xt tl p len cap op x hts
    split at hh
    · rename_i elem hu
      split at hh
      · rename_i size bytes z xd hsz hby hz hxd
        split at hh
        · cases hh
        · rename_i n new happ
          split at hh
          · cases hh
          · rename_i hcond
            have hnl : new.length = n * size := by
              by_cases e : new.length = n * size
              · exact e
              · exact absurd (.inl e) hcond
            have hzl : z.cells.length = size := by
              by_cases e : z.cells.length = size
              · exact e
              · exact absurd (.inr (.inl e)) hcond
            have hza : z.cells.all AV.scalar = true := by
              by_cases e : z.cells.all AV.scalar = true
              · exact e
              · exact absurd (.inr (.inr (by simpa using e))) hcond
            obtain ⟨i, hi, hisz⟩ := Option.map_eq_some_iff.1 hsz
            obtain ⟨Z, hZ, hzz⟩ := ret_zero hz
            have hZs : Z.cells.size = size := by
              have : z.cells.length = Z.cells.size := by rw [(hzz env).cells.length]; simp
              omega
            obtain ⟨ARGS⟩ := ARGS
            simp only at hx
            cases hx with
            | @cons _ D _ L hd hx =>
              cases hx with
              | @cons _ X _ L2 hsv hx =>
                cases hx
                have hts0 : ts[0]? = some st := by rw [← Array.getElem?_toList, hts]; rfl
                have hts1 : ts[1]? = some xt := by rw [← Array.getElem?_toList, hts]; rfl
                obtain ⟨hn, hnew⟩ := appended_sound (P := P) (B := B) (w₀ := w₀) (K := K) (s := s) (S := S) happ hsv hnl hzl hza hz
                split at hh
                · rename_i hle
                  obtain ⟨New, n1, n2, n3⟩ := hnew w hs
                  -- nothing is written
                  have idle : n = 0 → ∃ base C, D = .slice base len C ∧ Does P (Builtin.append_ ts ty ⟨[D, X]⟩) w D w := by
                    intro hn0
                    subst hn0
                    have hNew : New.toList = [] := by
                      have h1 : new = [] := by simpa using hnl
                      subst h1
                      cases hq : New.toList with
                      | nil => rfl
                      | cons x y => rw [hq] at n2; cases n2
                    have mk : ∀ base C, D = .slice base len C → cap ≤ C → ∃ base C, D = .slice base len C ∧ Does P (Builtin.append_ ts ty ⟨[D, X]⟩) w D w := by
                      rintro base C rfl hC
                      refine ⟨base, C, rfl, ?_⟩
                      have := append_in (ty := ty) (w2 := w) (base := base) hts0 hts1 hu hsz hby hxd hn (Nat.le_trans hle hC) n1 (by
                        cases base with
                        | none => rfl
                        | some ad => simp only [hNew]; exact .pure _ _)
                      exact this
                    cases hd with
                    | slN => exact mk none 0 rfl (by omega)
                    | sl hat he ha hll => exact mk _ _ rfl (by omega)
                    | slD hdd ad cp hll hc => exact mk _ _ rfl hc
                  split at hh
                  · rename_i b off
                    split at hh
                    · rename_i hn0
                      cases hh
                      obtain ⟨base, C, hD, hdo⟩ := idle hn0
                      exact ⟨_, rfl, env, D, w, Env.le_refl env, hdo, hd, hs, fun es he => own_same' rfl he⟩
                    · rename_i hn0
                      obtain ⟨h1, hput, hr⟩ := Option.map_eq_some_iff.1 hh
                      cases hr
                      obtain ⟨e, nn, cs, op', hb, hlee, -⟩ := aPut_some hput
                      cases hd with
                      | @sl _ _ _ _ c sh e _ ad hat he ha hll =>
                        have had : ad = ⟨c, sh + off, none⟩ := by
                          rcases ha with h0 | h0
                          · omega
                          · exact h0
                        subst had
                        obtain ⟨w', d1, d2, d3, d4, d5⟩ := put_sound hs hput hat n2
                        have hdo := append_in (ty := ty) (w2 := w') (base := some ⟨c, sh + off, none⟩) (C := cap + e) hts0 hts1 hu hsz hby hxd hn (Nat.le_trans hle (Nat.le_add_right _ _)) n1 (by
                          simp only [add_none, Nat.add_assoc]
                          exact d1)
                        exact ⟨_, rfl, env, _, w', Env.le_refl env, hdo, .sl hat he (.inr rfl) hle, d2, fun es he => own_put' d3 d4 d5 he⟩
                      | slD hdd => rw [hs.dead _ hdd] at hb; cases hb
                  · split at hh
                    · rename_i hn0
                      cases hh
                      obtain ⟨base, C, hD, hdo⟩ := idle hn0
                      exact ⟨_, rfl, env, D, w, Env.le_refl env, hdo, hd, hs, fun es he => own_same' rfl he⟩
                    · cases hh
                · rename_i hle
                  split at hh
                  · cases hh
                  · rename_i hroom
                    split at hh
                    · cases hh
                    · rename_i old hold
                      split at hh
                      · cases hh
                      · rename_i hol
                        have hol : old.length = len * size := by simpa using hol
                        have hrest : ∀ cp, (Builtin.zeroCells Z.cells (cp - (len + n))).size = (cp - (len + n)) * i.size := fun cp => by
                          simp only [Builtin.zeroCells, Array.size_map, Array.size_range]
                          rw [hZs, hisz]
                        -- another row is made
                        have fresh : ∀ (C : Nat) (base : Option Addr) (env2 : Env) (h2 : AH), D = .slice base len C → ¬ len + n ≤ C → env.le env2 → HS P B w₀ K env2 h2 s S w → aNew P h2 elem (old ++ new) true = some (h2.n, h') →
                            ValS P B w₀ K env h' s S w (Builtin.append_ ts ty ⟨[D, X]⟩) (.slice (some (h2.n, 0)) (len + n) (len + n) true) := by
                          rintro C base env2 h2 hD hC hle2 hs2 hnw
                          obtain ⟨Old, o1, o2, o3⟩ := first_sound (P := P) (hs.drawn (w.drawn + 1)) hold hd hol rfl
                          obtain ⟨New, n1, n2, n3⟩ := hnew _ (hs.drawn (w.drawn + 1))
                          subst hD
                          obtain ⟨cp, hcp, hdo⟩ := append_out (ty := ty) hts0 hts1 hu hsz hby hxd hn hC hroom hZ o1 n1
                          obtain ⟨g1, -, g3⟩ := aNew_some hnw
                          cases g3
                          have hcells : VRs env2 (old ++ new) (Old ++ New).toList := by
                            rw [Array.toList_append]
                            exact (o2.mono hle2).append (n2.mono hle2)
                          obtain ⟨env', q1, q2, q3, q4⟩ := newrow_sound (m := len + n) (k := w.drawn + 1) hs2 hi hcells g1 (hrest cp)
                          have e1 : len + n + (cp - (len + n)) = cp := by omega
                          rw [e1] at q2
                          exact ⟨env', _, _, Env.le_trans hle2 q1, hdo, q2, q3, q4⟩
                        split at hh
                        · rename_i b off
                          split at hh
                          · rename_i hop
                            subst hop
                            split at hh
                            · rename_i e nb cs hb
                              split at hh
                              · rename_i hc2
                                simp only [Bool.and_eq_true, beq_iff_eq, decide_eq_true_eq] at hc2
                                obtain ⟨rfl, hnb⟩ := hc2
                                split at hh
                                · rename_i b' h2 hnw
                                  cases hh
                                  have hg := aNew_some hnw
                                  cases hd with
                                  | slD hdd => rw [hs.dead _ hdd] at hb; cases hb
                                  | @sl _ _ _ _ c sh ex _ ad hat he ha hll =>
                                    simp only [if_true] at he
                                    have hsK := hs.kill hb hat
                                    have hleK := Env.le_kill (env := env) b
                                    by_cases hC : len + n ≤ cap + ex
                                    · -- in its old place
                                      have had : ad = ⟨c, sh + off, none⟩ := by
                                        rcases ha with h0 | h0
                                        · omega
                                        · exact h0
                                      subst had
                                      obtain ⟨New, n1, n2, n3⟩ := hnew w hs
                                      obtain ⟨arr, e', fr, b1, b2, b3, ⟨i', hi', b4⟩, b5⟩ := hs.rel _ _ _ _ hb hat
                                      rw [hi] at hi'; cases hi'
                                      obtain ⟨hB, hfr, rfl⟩ := b3 rfl
                                      simp only [if_true] at b4
                                      rw [← he, hisz] at b4
                                      have hfit : sh + off + (cap + ex) * size ≤ arr.size := by
                                        rw [Nat.add_mul]; omega
                                      have hneed : (len + n) * size ≤ (cap + ex) * size := Nat.mul_le_mul_right _ hC
                                      have hNl : New.toList.length = n * size := by rw [← n2.length]; exact hnl
                                      rw [Nat.add_mul] at hneed
                                      obtain ⟨w', arr', d1, d2, d3, d4, d5⟩ := does_storeCells (P := P) (c := c) (o := sh + off + len * size) New.toList 0 w arr e' fr b1 hfr (by rw [hNl]; omega) (vrs_one n2 n3)
                                      have hdo := append_in (ty := ty) (w2 := w') (base := some ⟨c, sh + off, none⟩) (C := cap + ex) hts0 hts1 hu hsz hby hxd hn hC n1 (by
                                        simp only [add_none]
                                        exact d1)
                                      obtain ⟨g1, -, g3⟩ := hg
                                      cases g3
                                      have hold' : old.length = len * size ∧ ∀ j, j < len * size → cs.get (off + j) = old[j]? := by
                                        have : aCellsAt h b off (len * size) = some old := hold
                                        unfold aCellsAt at this
                                        rw [hb] at this
                                        simp only at this
                                        split at this
                                        · exact T.gets_some this
                                        · cases this
                                      have hollen : off + len * size ≤ nb := by
                                        have h3 : len * size ≤ cap * size := Nat.mul_le_mul_right _ hll
                                        omega
                                      have hholeK : (env.kill b).blk h.n = .hole := hs_hole (h := { h with t := h.t.set b .dead }) hsK
                                      have hleF := Env.le_fill (c := c) (sh := sh + off) (ex := cap + ex - (len + n)) hholeK
                                      refine ⟨_, rfl, (env.kill b).fill h.n c (sh + off) (cap + ex - (len + n)), _, w', Env.le_trans hleK hleF, hdo, ?_, ?_, fun es he => own_put' d2 (cells_not_chan b1) (cells_not_chan d3) he⟩
                                      · have := VR.sl (env := (env.kill b).fill h.n c (sh + off) (cap + ex - (len + n))) (b := h.n) (o := 0) (len := len + n) (cap := len + n) (op := true) (e := cap + ex - (len + n)) (a := ⟨c, sh + off, none⟩) (fill_at _ _ _ _) (by simp [fill_ex]) (.inr (by simp)) (Nat.le_refl _)
                                        have e1 : len + n + (cap + ex - (len + n)) = cap + ex := by omega
                                        rw [e1] at this
                                        exact this
                                      · refine (hsK.apush (by simp)).fillAt (push_get { h with t := h.t.set b .dead } _) hholeK (hs_notK (h := { h with t := h.t.set b .dead }) hsK) (fun k sh' hk => ?_) hB d2 ?_
                                        · simp only [Env.kill] at hk
                                          split at hk
                                          · cases hk
                                          · rename_i hne
                                            exact hne (hs.inj _ _ _ _ _ hB hk hat)
                                        · refine ⟨arr', e', fr, d3, fun j hj => ?_, fun _ => ⟨hB, by rw [d4]; exact hfr, rfl⟩, ⟨i, hi, ?_⟩, fun hf => by cases hf⟩
                                          · rw [T.get_ofList, d5]
                                            simp only [List.length_append] at hj
                                            rw [List.getElem?_append]
                                            by_cases hj1 : j < old.length
                                            · rw [if_pos hj1, if_neg (by omega)]
                                              obtain ⟨v, V, r1, r2, r3, r4⟩ := b2 (off + j) (by omega)
                                              rw [hold'.2 j (by omega)] at r1
                                              exact ⟨v, V, r1, r2, by rw [← r3]; congr 1; omega, r4.mono (Env.le_trans hleK hleF)⟩
                                            · rw [if_neg hj1, if_pos (by rw [hNl]; omega)]
                                              obtain ⟨v, V, r1, r2, r3⟩ := vrs_get' n2 (by omega : j - old.length < new.length)
                                              refine ⟨v, V, r1, List.all_eq_true.1 n3 v (List.mem_of_getElem? r1), ?_, r3.mono (Env.le_trans hleK hleF)⟩
                                              rw [← r2]; congr 1; omega
                                          · rw [d4]
                                            simp only [if_true, fill_ex, List.length_append, hol, hnl, hisz]
                                            have e2 : (cap + ex - (len + n)) * size = (cap + ex) * size - (len * size + n * size) := by rw [Nat.sub_mul, Nat.add_mul len n]
                                            rw [e2]
                                            omega
                                    · obtain ⟨g1, g2, g3⟩ := hg
                                      cases g3
                                      exact ⟨_, rfl, fresh (cap + ex) _ _ _ rfl hC hleK hsK hnw⟩
                                · cases hh
                              · cases hh
                            · cases hh
                          · rename_i hop
                            have hop' : op = false := by simpa using hop
                            subst hop'
                            split at hh
                            · rename_i b' h2 hnw
                              cases hh
                              have hg := aNew_some hnw
                              obtain ⟨g1, g2, g3⟩ := hg
                              cases g3
                              cases hd with
                              | @sl _ _ _ _ c sh ex _ ad hat he ha hll =>
                                simp only [Bool.false_eq_true, if_false] at he
                                subst he
                                exact ⟨_, rfl, fresh cap _ env h rfl hle (Env.le_refl env) hs hnw⟩
                              | slD hdd =>
                                exfalso
                                have : aCellsAt h b off (len * size) = some old := hold
                                unfold aCellsAt at this
                                rw [hs.dead _ hdd] at this
                                cases this
                            · cases hh
                        · split at hh
                          · rename_i b' h2 hnw
                            cases hh
                            have hg := aNew_some hnw
                            obtain ⟨g1, g2, g3⟩ := hg
                            cases g3
                            cases hd with
                            | slN => exact ⟨_, rfl, fresh 0 _ env h rfl hle (Env.le_refl env) hs hnw⟩
                          · cases hh
      · cases hh
    · cases hh
  · cases hh

/-! ### clear -/
theorem clear_sound (hs : HS P B w₀ K env h s S w) {ts : Array TypeId} {ty : TypeId} {args : List AV} {ARGS : Array Value} {r : ARes} (hh : aClear P h ts.toList args = some (r, h')) (hx : VRs env args ARGS.toList) :
    ∃ v, r = .val v ∧ ValS P B w₀ K env h' s S w (Builtin.clear_ ts ty ARGS) v := by
  unfold aClear at hh
  split at hh
  · rename_i t tl p n cap op hts
    split at hh
    · rename_i elem hu
      obtain ⟨ARGS⟩ := ARGS
      simp only at hx
      cases hx with
      | @cons _ D _ L hd hx =>
        cases hx
        have hts0 : ts[0]? = some t := by rw [← Array.getElem?_toList, hts]; rfl
        have hend : VR env (.tuple []) (.tuple #[]) := .tuple .nil
        split at hh
        · cases hh
          cases hd with
          | slN =>
            refine ⟨_, rfl, env, .tuple #[], w, Env.le_refl env, ?_, hend, hs, fun es he => own_same' rfl he⟩
            unfold Builtin.clear_
            simp only [hts0]
            refine .bind ((ret_und hu).does w) ?_
            exact .bind (.pure _ _) (.pure _ _)
        · cases hh
          have key : ∀ base C, D = .slice (some base) 0 C → Does P (Builtin.clear_ ts ty ⟨[D]⟩) w (.tuple #[]) w := by
            rintro base C rfl
            unfold Builtin.clear_
            simp only [hts0]
            refine .bind ((ret_und hu).does w) ?_
            exact .bind (.pure _ _) (.pure _ _)
          cases hd with
          | sl hat he ha hll => exact ⟨_, rfl, env, .tuple #[], w, Env.le_refl env, key _ _ rfl, hend, hs, fun es he => own_same' rfl he⟩
          | slD hdd ad cp hll hc => exact ⟨_, rfl, env, .tuple #[], w, Env.le_refl env, key _ _ rfl, hend, hs, fun es he => own_same' rfl he⟩
        · rename_i b off m
          split at hh
          · rename_i z hz
            obtain ⟨h1, hput, hr⟩ := Option.map_eq_some_iff.1 hh
            cases hr
            obtain ⟨Z, hZ, hzz⟩ := ret_zero hz
            obtain ⟨e, nn, cs, op', hb, hlee, hsc, -⟩ := aPut_some hput
            have hlen : z.cells.length = Z.cells.size := by rw [(hzz env).cells.length]; simp
            have hrep := vrs_rep (hzz env).cells (m + 1)
            cases hd with
            | @sl _ _ _ _ c sh ex _ ad hat he ha hll =>
              have had : ad = ⟨c, sh + off, none⟩ := by
                rcases ha with h0 | h0
                · omega
                · exact h0
              subst had
              obtain ⟨w', d1, d2, d3, d4, d5⟩ := put_sound hs hput hat hrep
              refine ⟨_, rfl, env, .tuple #[], w', Env.le_refl env, ?_, hend, d2, fun es he => own_put' d3 d4 d5 he⟩
              unfold Builtin.clear_
              simp only [hts0]
              refine .bind ((ret_und hu).does w) ?_
              refine .bind (hZ.does w) ?_
              refine .bind (v := ()) (w' := w') ?_ (.pure _ _)
              unfold Builtin.zeroCells
              rw [← hlen]
              rw [hlen] at d1 ⊢
              exact d1
            | slD hdd => rw [hs.dead _ hdd] at hb; cases hb
          · cases hh
    · cases hh
  · cases hh
end
end
end Go.Cx

/-
  MAPS THAT TURN, STRINGS RANGED OVER, CHANNELS MADE, CALLS.
-/
namespace Go.Cx
noncomputable section
open Go Go.Conc
section
variable {P : Program} {B : Nat} {w₀ : World} {K : List Nat} {env : Env} {h h' : AH} {s : Option (Nat × List AV)} {S : Option (Nat × List Value)} {w w' : World} {ρ : Operand → Option AV} {a : Act} {v : AV} {o : Oper}

/-- As 'Does', but it may turn the object at c. -/
def DoesO {α : Type} (P : Program) (c : Nat) (s : Sem α) (w : World) (v : α) (w' : World) : Prop := s.run P w = .ok v w' ∧ ∀ es e, e ∈ s.events P w es → e ∈ es ∨ EvOk e ∨ e.loc = .obj c
theorem Does.obj {α : Type} {c : Nat} {s : Sem α} {v : α} (h : Does P s w v w') : DoesO P c s w v w' := ⟨h.1, fun es e he => (h.2 es e he).imp id .inl⟩
theorem DoesO.bind {α β : Type} {c : Nat} {x : Sem α} {f : α → Sem β} {w w' w'' : World} {v : α} {u : β} (h : DoesO P c x w v w') (h' : DoesO P c (f v) w' u w'') : DoesO P c (x >>= f) w u w'' := by
  refine ⟨by simp [h.1, h'.1], fun es e he => ?_⟩
  rw [Sem.events_bind, h.1, Result.evThen_ok] at he
  rcases h'.2 _ _ he with he | he
  · exact h.2 _ _ he
  · exact .inr he
theorem DoesO.pure {α : Type} {c : Nat} (v : α) (w : World) : DoesO P c (Pure.pure v : Sem α) w v w := Does.obj (.pure v w)
theorem DoesO.listed {c : Nat} {n : Next} (h : DoesO P c (execOp a.eval o) w n w') (fn : FuncId) : ∀ e ∈ listed P fn a o w, EvOk e ∨ e.loc = .obj c := by
  intro e he
  rcases h.2 _ _ (mem_seen he) with h2 | h2
  · simp at h2
  · exact h2
theorem own_obj {c : Nat} {es : Array Event} (h1 : At1 c w w') (hc : ¬ IsChan w c) (hc' : ¬ IsChan w' c) (hlt : c < w'.heap.size) (he : ∀ e ∈ es, EvOk e ∨ e.loc = .obj c) : Own w w' es :=
  .of_put h1 hc hc' (fun e h m hm => by
    rcases he e h with h2 | h2
    · exact h2.1 m hm
    · rw [h2] at hm; cases hm) (fun e h k hk hw => by
    rcases he e h with h2 | h2
    · rw [h2.2 k hk] at hw; cases hw
    · rw [h2] at hk; cases hk; exact ⟨hlt, hc'⟩)

theorem at1_set (c : Nat) (ob : Obj) (w : World) : At1 c w { w with heap := w.heap.setIfInBounds c ob } :=
  ⟨rfl, rfl, rfl, by simp, fun k hk => by simp only [Array.getElem?_setIfInBounds]; rw [if_neg (fun e => hk e.symm)]⟩

theorem doesO_setObj {c : Nat} {ob ob' : Obj} (hc : w.heap[c]? = some ob) (hn : ∀ arr e fr, ob ≠ .cells arr e fr) : DoesO P c (setObj c ob') w () { w with heap := w.heap.setIfInBounds c ob' } := by
  refine ⟨?_, fun es e he => ?_⟩
  · simp only [setObj, Sem.run, hc]
  · simp only [setObj, Sem.events, Sem.runT, hc] at he
    cases ob <;> first
      | (exact absurd rfl (hn _ _ _))
      | (simp only [Array.mem_push] at he
         rcases he with he | rfl
         · exact .inl he
         · exact .inr (.inr rfl))

theorem same_bits {k k' : AV} {KV KV' : Value} (hh : aSame k' k = true) (hk : VR env k KV) (hk' : VR env k' KV') (n : Nat) : Instr.sameBits (n + 1) KV' KV = true := by
  unfold aSame at hh
  split at hh
  · rw [hk.inj_int, hk'.inj_int]; simpa [Instr.sameBits] using hh
  · rw [hk.inj_str, hk'.inj_str]; simp only [Instr.sameBits, beq_str]; exact hh
  · rw [hk.inj_bool, hk'.inj_bool]; simpa [Instr.sameBits] using hh
  · rename_i l l'
    simp only [Bool.and_eq_true, beq_iff_eq] at hh
    obtain ⟨h1, h2⟩ := hh
    obtain ⟨L, rfl, hL, hLs⟩ := hk.agg_inv
    obtain ⟨L', rfl, hL', hLs'⟩ := hk'.agg_inv
    have e1 := hL.length
    have e2 := hL'.length
    simp only [Instr.sameBits, List.size_toArray, Bool.and_eq_true, beq_iff_eq]
    refine ⟨by omega, List.all_eq_true.2 fun x hx => ?_⟩
    obtain ⟨i, hi, rfl⟩ := List.getElem_of_mem hx
    simp only [List.length_zip] at hi
    obtain ⟨u, U, g1, g2, g3⟩ := vrs_get' hL (by omega : i < l'.length)
    obtain ⟨u', U', g1', g2', g3'⟩ := vrs_get' hL' (by omega : i < l.length)
    have hz : (l.zip l')[i]? = some (u', u) := by rw [List.getElem?_zip_eq_some]; exact ⟨g1', g1⟩
    have := List.all_eq_true.1 h2 _ (List.mem_of_getElem? hz)
    have hz2 : (L'.zip L)[i]? = some (U', U) := by rw [List.getElem?_zip_eq_some]; exact ⟨g2', g2⟩
    have hz3 : (L'.zip L)[i]'(by simp; omega) = (U', U) := by
      rw [List.getElem?_eq_getElem (by simp; omega)] at hz2
      exact Option.some.inj hz2
    have hz4 : (L'.toArray.toList.zip L.toArray.toList)[i]'(by simp; omega) = (U', U) := hz3
    rw [hz4]
    simp only at this ⊢
    split at this
    · rename_i e
      cases e
      rw [g3.inj_int, g3'.inj_int]
      cases n <;> simpa [Instr.sameBits] using this
    · cases this
  · cases hh

theorem map_not_chan {c : Nat} {ES : Array MapEntry} {clock : Nat} (h : w.heap[c]? = some (.map ES clock)) : ¬ IsChan w c := by
  unfold IsChan
  rw [h]
  rintro ⟨_, _, _, _, _, _, hh⟩
  cases hh

/-- The map turned. -/
theorem HS.setMap (hs : HS P B w₀ K env h s S w) {b c : Nat} {es es' : List (AV × AV × Nat)} {ES ES' : Array MapEntry} {clock clock' : Nat} (hb : h.t.get b = some (.map es clock)) (hat : env.blk b = .at c 0) (hc : w.heap[c]? = some (.map ES clock)) (hB : B ≤ c) (he : ER env es' ES'.toList) :
    HS P B w₀ K env { h with t := h.t.set b (.map es' clock') } s S { w with heap := w.heap.setIfInBounds c (.map ES' clock') } ∧ ∀ a : Array Event, (∀ e ∈ a, EvOk e ∨ e.loc = .obj c) → Own w { w with heap := w.heap.setIfInBounds c (.map ES' clock') } a := by
  have hlt : c < w.heap.size := (Array.getElem?_eq_some_iff.1 hc).1
  have hnew : ({ w with heap := w.heap.setIfInBounds c (.map ES' clock') } : World).heap[c]? = some (.map ES' clock') := by
    simp [hlt]
  refine ⟨hs.put hb hat hB (at1_set c _ w) (by simp) (by simp) ⟨hB, rfl, ES', hnew, by simpa using he.1, fun i k v bn hi => by simpa using he.2 i k v bn hi⟩, fun a ha => own_obj (at1_set c _ w) (map_not_chan hc) (map_not_chan hnew) (by simpa using hlt) ha⟩

theorem er_push {es : List (AV × AV × Nat)} {ES : Array MapEntry} {k v : AV} {KV V : Value} {bn : Nat} (he : ER env es ES.toList) (hk : VR env k KV) (hv : VR env v V) : ER env (es ++ [(k, v, bn)]) (ES.push { key := KV, val := V, born := bn }).toList := by
  obtain ⟨h1, h2⟩ := he
  refine ⟨by simp at h1 ⊢; exact h1, fun i k' v' bn' hi => ?_⟩
  simp only [Array.toList_push]
  rw [List.getElem?_append] at hi
  split at hi
  · rename_i hlt
    obtain ⟨E, g1, g2⟩ := h2 i k' v' bn' hi
    exact ⟨E, by rw [List.getElem?_append, if_pos (by omega)]; exact g1, g2⟩
  · rename_i hlt
    have hi0 : i - es.length = 0 := by
      have := (List.getElem?_eq_some_iff.1 hi).1
      simp at this; omega
    rw [hi0] at hi
    simp only [List.getElem?_cons_zero, Option.some.injEq, Prod.mk.injEq] at hi
    obtain ⟨rfl, rfl, rfl⟩ := hi
    refine ⟨_, by rw [List.getElem?_append, if_neg (by omega)]; have : i - ES.toList.length = 0 := by omega
                  rw [this]; rfl, hk, hv, rfl⟩

theorem er_modify {es : List (AV × AV × Nat)} {ES : Array MapEntry} {i : Nat} {k v k0 v0 : AV} {bn : Nat} {f : MapEntry → MapEntry} (he : ER env es ES.toList) (hi : es[i]? = some (k0, v0, bn)) (hf : ∀ E, VR env k0 E.key → VR env v0 E.val → E.born = bn → VR env k (f E).key ∧ VR env v (f E).val ∧ (f E).born = bn) :
    ER env (es.set i (k, v, bn)) (ES.modify i f).toList := by
  obtain ⟨h1, h2⟩ := he
  refine ⟨by simp at h1 ⊢; exact h1, fun j k' v' bn' hj => ?_⟩
  rw [Array.getElem?_toList, Array.getElem?_modify]
  rw [List.getElem?_set] at hj
  by_cases e : i = j
  · subst e
    rw [if_pos rfl] at hj
    split at hj
    · simp only [Option.some.injEq, Prod.mk.injEq] at hj
      obtain ⟨rfl, rfl, rfl⟩ := hj
      obtain ⟨E, g1, g2, g3, g4⟩ := h2 i _ _ _ hi
      rw [Array.getElem?_toList] at g1
      exact ⟨f E, by rw [if_pos rfl, g1]; rfl, hf E g2 g3 g4⟩
    · cases hj
  · rw [if_neg e] at hj ⊢
    obtain ⟨E, g1, g2⟩ := h2 j _ _ _ hj
    rw [Array.getElem?_toList] at g1
    exact ⟨E, g1, g2⟩

theorem ret_stays {k k' : AV} {KV KV' : Value} (hh : aSame k' k = true) (hk : VR env k KV) (hk' : VR env k' KV') : Ret P (Instr.keyThatStays KV' KV) KV := by
  unfold Instr.keyThatStays
  rw [if_pos (same_bits hh hk hk' 9999)]
  exact .pure _

/-- What is shown of an operation that turns an object. -/
def ObjS (P : Program) (B : Nat) (w₀ : World) (K : List Nat) (env : Env) (h' : AH) (s : Option (Nat × List AV)) (S : Option (Nat × List Value)) (w : World) (sem : Sem Next) (R : Next → Prop) : Prop :=
  ∃ n w' c, DoesO P c sem w n w' ∧ R n ∧ HS P B w₀ K env h' s S w' ∧ ∀ es : Array Event, (∀ e ∈ es, EvOk e ∨ e.loc = .obj c) → Own w w' es

theorem mapUpdate_sound (hs : HS P B w₀ K env h s S w) {t : TypeId} {m k v : AV} {M KV V : Value} (hh : aMapUpdate P h t m k v = some h') (hm : VR env m M) (hk : VR env k KV) (hv : VR env v V) :
    ObjS P B w₀ K env h' s S w (do Instr.mapUpdate t M KV V; Pure.pure Next.skip) (· = .skip) := by
  unfold aMapUpdate at hh
  split at hh
  · rename_i kt vt b hu
    split at hh
    · rename_i es clock hb
      split at hh
      · rename_i hkey
        obtain ⟨c, ES, hat, rfl, hB, hc, hER⟩ := hs.at_map hb hm
        split at hh
        · rename_i i v0 bn hf
          simp only [Option.some.injEq] at hh; subst hh
          obtain ⟨R, hR, V0, rfl, hv0, -, k', hes, hsame⟩ := ret_findKey hk hkey hER hf
          simp only [Nat.sub_zero] at hes
          obtain ⟨E, g1, g2, g3, g4⟩ := hER.2 i k' v0 bn hes
          rw [Array.getElem?_toList] at g1
          obtain ⟨q1, q2⟩ := hs.setMap (clock' := clock) hb hat hc hB (er_modify (k := k) (v := v) (f := fun e => { e with key := KV, val := V }) hER hes fun E a b c => ⟨hk, hv, c⟩)
          refine ⟨.skip, _, c, ?_, rfl, q1, q2⟩
          refine .bind (v := ()) ?_ (.pure _ _)
          refine .bind ((ret_und hu).does w).obj ?_
          simp only []
          refine .bind (does_getObj_map hc).obj ?_
          refine .bind ((aKey_ret _ eqDepth 10000 kt k KV (by decide) hkey hk).does w).obj (.bind (hR.does w).obj ?_)
          simp only [g1, Option.map_some, Option.getD_some]
          exact .bind ((ret_stays hsame hk g2).does w).obj (doesO_setObj hc (by simp))
        · rename_i hf
          simp only [Option.some.injEq] at hh; subst hh
          obtain ⟨R, hR, hr⟩ := ret_findKey hk hkey hER hf
          have hr : R = none := hr
          subst hr
          obtain ⟨q1, q2⟩ := hs.setMap (clock' := clock + 1) hb hat hc hB (er_push (bn := clock) hER hk hv)
          refine ⟨.skip, _, c, ?_, rfl, q1, q2⟩
          refine .bind (v := ()) ?_ (.pure _ _)
          refine .bind ((ret_und hu).does w).obj ?_
          simp only []
          refine .bind (does_getObj_map hc).obj ?_
          refine .bind ((aKey_ret _ eqDepth 10000 kt k KV (by decide) hkey hk).does w).obj (.bind (hR.does w).obj ?_)
          simp only []
          exact doesO_setObj hc (by simp)
        · cases hh
      · cases hh
    · cases hh
  · cases hh

theorem mapEntry_sound (hs : HS P B w₀ K env h s S w) {t : TypeId} {m k : AV} {r : ARes} {M KV : Value} (hh : aMapEntry P h t m k = some (r, h')) (hm : VR env m M) (hk : VR env k KV) :
    ∃ v, r = .val v ∧ ObjS P B w₀ K env h' s S w (do Pure.pure (Next.value (← Instr.mapEntry t M KV))) (fun n => ∃ V, n = .value V ∧ VR env v V) := by
  unfold aMapEntry at hh
  split at hh
  · rename_i kt vt b hu
    split at hh
    · rename_i es clock hb
      split at hh
      · rename_i hkey
        obtain ⟨c, ES, hat, rfl, hB, hc, hER⟩ := hs.at_map hb hm
        split at hh
        · rename_i i v0 bn hf
          cases hh
          obtain ⟨R, hR, V0, rfl, hv0, -, k', hes, hsame⟩ := ret_findKey hk hkey hER hf
          simp only [Nat.sub_zero] at hes
          obtain ⟨E, g1, g2, g3, g4⟩ := hER.2 i k' v0 bn hes
          rw [Array.getElem?_toList] at g1
          obtain ⟨q1, q2⟩ := hs.setMap (clock' := clock) hb hat hc hB (er_modify (k := k) (v := v0) (f := fun e => { e with key := KV }) hER hes fun E a b c => ⟨hk, b, c⟩)
          refine ⟨_, rfl, .value (.tuple #[V0, goInt bn]), _, c, ?_, ⟨_, rfl, .tuple (.cons hv0 (.cons (.int _ _) .nil))⟩, q1, q2⟩
          refine .bind (v := .tuple #[V0, goInt bn]) ?_ (.pure _ _)
          refine .bind ((ret_und hu).does w).obj ?_
          simp only []
          refine .bind (does_getObj_map hc).obj ?_
          refine .bind ((aKey_ret _ eqDepth 10000 kt k KV (by decide) hkey hk).does w).obj (.bind (hR.does w).obj ?_)
          simp only [g1, Option.map_some, Option.getD_some, g4]
          exact .bind ((ret_stays hsame hk g2).does w).obj (.bind (doesO_setObj hc (by simp)) (.pure _ _))
        · rename_i hf
          obtain ⟨z, hz, hr'⟩ := Option.map_eq_some_iff.1 hh
          cases hr'
          obtain ⟨Z, hZ, hzz⟩ := ret_zero hz
          obtain ⟨R, hR, hr⟩ := ret_findKey hk hkey hER hf
          have hr : R = none := hr
          subst hr
          obtain ⟨q1, q2⟩ := hs.setMap (clock' := clock + 1) hb hat hc hB (er_push (bn := clock) hER hk (hzz env))
          refine ⟨_, rfl, .value (.tuple #[Z, goInt clock]), _, c, ?_, ⟨_, rfl, .tuple (.cons (hzz env) (.cons (.int _ _) .nil))⟩, q1, q2⟩
          refine .bind (v := .tuple #[Z, goInt clock]) ?_ (.pure _ _)
          refine .bind ((ret_und hu).does w).obj ?_
          simp only []
          refine .bind (does_getObj_map hc).obj ?_
          refine .bind ((aKey_ret _ eqDepth 10000 kt k KV (by decide) hkey hk).does w).obj (.bind (hR.does w).obj ?_)
          simp only []
          exact .bind (hZ.does w).obj (.bind (doesO_setObj hc (by simp)) (.pure _ _))
        · cases hh
      · cases hh
    · cases hh
  · cases hh

theorem entryStore_sound (hs : HS P B w₀ K env h s S w) {t : TypeId} {m st v : AV} {M ST V : Value} (hh : aEntryStore h m st v = some h') (hm : VR env m M) (hst : VR env st ST) (hv : VR env v V) :
    ObjS P B w₀ K env h' s S w (do Instr.entryStore t M ST V; Pure.pure Next.skip) (· = .skip) := by
  unfold aEntryStore at hh
  split at hh
  · rename_i b kk born
    split at hh
    · rename_i es clock hb
      split at hh
      · rename_i i hfi
        split at hh
        · rename_i k v0 bn hes
          simp only [Option.some.injEq] at hh; subst hh
          obtain ⟨c, ES, hat, rfl, hB, hc, hER⟩ := hs.at_map hb hm
          rw [hst.inj_int]
          obtain ⟨q1, q2⟩ := hs.setMap (clock' := clock) hb hat hc hB (er_modify (k := k) (v := v) (f := fun e => { e with val := V }) hER hes fun E a b c => ⟨a, hv, c⟩)
          have hidx : ES.findIdx? (fun e => (e.born : Int) == born) = some i := by
            have hmap : ES.toList.map (·.born) = es.map (·.2.2) := by
              apply List.ext_getElem?
              intro j
              simp only [List.getElem?_map]
              cases hj : es[j]? with
              | none =>
                have := List.getElem?_eq_none_iff.1 hj
                have : ES.toList[j]? = none := List.getElem?_eq_none (by rw [hER.1]; exact this)
                rw [this]; rfl
              | some x =>
                obtain ⟨a, b, d⟩ := x
                obtain ⟨E, g1, g2, g3, g4⟩ := hER.2 j a b d hj
                rw [g1]; simp [g4]
            have h1 : (ES.toList.map (·.born)).findIdx? (fun (n : Nat) => (n : Int) == born) = some i := by
              rw [hmap, List.findIdx?_map]; exact hfi
            rw [List.findIdx?_map] at h1
            have he : ES = ES.toList.toArray := by simp
            rw [he, List.findIdx?_toArray]
            exact h1
          refine ⟨.skip, _, c, ?_, rfl, q1, q2⟩
          refine .bind (v := ()) ?_ (.pure _ _)
          unfold Instr.entryStore
          refine .bind (does_getObj_map hc).obj ?_
          refine .bind ((ret_asInt _ _).does w).obj ?_
          simp only [hidx]
          exact doesO_setObj hc (by simp)
        · cases hh
      · cases hh
    · cases hh
  · cases hh
end
end
end Go.Cx

/-
  THE OTHER OPERATIONS; ALL TOGETHER ('OpS').
-/
namespace Go.Cx
noncomputable section
open Go Go.Conc
section
variable {P : Program} {B : Nat} {w₀ : World} {K : List Nat} {env : Env} {h h' : AH} {s : Option (Nat × List AV)} {S : Option (Nat × List Value)} {w w' : World} {ρ : Operand → Option AV} {a : Act} {v : AV} {o : Oper}

/-- A block of another kind is made. -/
theorem make_other (hs : HS P B w₀ K env h s S w) {ob : Obj} {blk : ABlk} (hc : blk ≠ .chan 1) (hb : BR P B (env.fill h.n w.heap.size 0 0) { w with heap := w.heap.push ob } h.n w.heap.size 0 blk) :
    HS P B w₀ K (env.fill h.n w.heap.size 0 0) (h.push blk) s S { w with heap := w.heap.push ob } ∧ env.le (env.fill h.n w.heap.size 0 0) ∧ ∀ es : Array Event, (∀ e ∈ es, EvOk e) → Own w { w with heap := w.heap.push ob } es :=
  ⟨(hs.apush hc).fill (push_get h blk) (hs_hole hs) (hs_notK hs) (new1_push ob w) hb, Env.le_fill (hs_hole hs), fun _es he => own_new' (new1_push ob w) he⟩

theorem range_sound (hs : HS P B w₀ K env h s S w) {t : TypeId} {l : List UInt8} {X : Value} (hu : P.underlying t = some .string) (hx : VR env (.str l) X) :
    ValS P B w₀ K env (h.push (.siter l 0)) s S w (Instr.range t X) (.ptr (some (h.n, 0))) := by
  have hB : B ≤ w.heap.size := by have := hs.size; have := hs.bound; omega
  obtain ⟨q1, q2, q3⟩ := make_other hs (ob := .stringIter ⟨l.toArray⟩ 0) (blk := .siter l 0) (by simp) ⟨hB, rfl, (new1_push _ w).new⟩
  refine ⟨_, .pointer (some ⟨w.heap.size, 0, none⟩), _, q2, ?_, vr_newPtr, q1, q3⟩
  rw [hx.inj_str]
  refine .bind ((ret_und hu).does w) ?_
  simp only []
  exact .bind (.pure _ _) (.bind (does_newObj _ _) (.pure _ _))

theorem makeChan_sound (hs : HS P B w₀ K env h s S w) {t e : TypeId} {d : ChanDir} {k : IntKind} {i : TypeInfo} {X : Value} (hu : P.underlying t = some (.chan d e)) (hi : P.info? e = some i) (_hb : i.bytes ≤ 1048576) (hx : VR env (.int k 0) X) :
    ValS P B w₀ K env (h.push (.chan 0)) s S w (Instr.makeChan t X) (.chan (some h.n)) := by
  have hB : B ≤ w.heap.size := by have := hs.size; have := hs.bound; omega
  obtain ⟨q1, q2, q3⟩ := make_other hs (ob := .chan 0 #[] false 0 0 false) (blk := .chan 0) (by simp) ⟨hB, rfl, ⟨_, _, _, _, _, _, (new1_push _ w).new⟩, fun _ => ⟨0, 0, false, (new1_push _ w).new⟩⟩
  refine ⟨_, .chan (some w.heap.size), _, q2, ?_, .chan (fill_at _ _ _ _), q1, q3⟩
  rw [hx.inj_int]
  unfold Instr.makeChan
  refine .bind ((ret_asInt _ _).does w) ?_
  refine .bind ((ret_und hu).does w) ?_
  simp only []
  refine .bind ((ret_info hi).does w) ?_
  rw [if_neg]
  · exact .bind (does_newObj _ _) (.pure _ _)
  · have h3 : IntKind.i64.max = 9223372036854775807 := by decide
    rw [h3]
    simp

theorem siter_not_chan {c : Nat} {l : ByteArray} {p : Nat} (h : w.heap[c]? = some (.stringIter l p)) : ¬ IsChan w c := by
  unfold IsChan
  rw [h]
  rintro ⟨_, _, _, _, _, _, hh⟩
  cases hh

theorem next_sound (hs : HS P B w₀ K env h s S w) {b pos : Nat} {l : List UInt8} {ty : TypeId} {X : Value} (hb : h.t.get b = some (.siter l pos)) (hx : VR env (.ptr (some (b, 0))) X) :
    if pos < l.length then ObjS P B w₀ K env { h with t := h.t.set b (.siter l (pos + (Utf8.decode ⟨l.toArray⟩ pos).2)) } s S w (do Pure.pure (Next.value (← Instr.next X true ty))) (fun n => ∃ V, n = .value V ∧ VR env (.tuple [.bool true, .int .i64 pos, .int .i32 (Utf8.decode ⟨l.toArray⟩ pos).1]) V)
    else ObjS P B w₀ K env h s S w (do Pure.pure (Next.value (← Instr.next X true ty))) (fun n => ∃ V, n = .value V ∧ VR env (.tuple [.bool false]) V) := by
  obtain ⟨c, sh, hat, rfl, hB, hsh, hc⟩ := hs.at_ptr hb (by simp) hx
  subst hsh
  have hsz : (⟨l.toArray⟩ : ByteArray).size = l.length := by simp [ByteArray.size]
  have hlt : c < w.heap.size := (Array.getElem?_eq_some_iff.1 hc).1
  have hget : Does P (getObj c) w (.stringIter ⟨l.toArray⟩ pos) w := .of_calm (by simp [getObj, Sem.run, hc]) (calm_getObj c)
  split
  · rename_i hp
    let w1 : World := { w with heap := w.heap.setIfInBounds c (.stringIter ⟨l.toArray⟩ (pos + (Utf8.decode ⟨l.toArray⟩ pos).2)) }
    have hnew : w1.heap[c]? = some (.stringIter ⟨l.toArray⟩ (pos + (Utf8.decode ⟨l.toArray⟩ pos).2)) := by simp [w1, hlt]
    have q1 := hs.put (blk' := .siter l (pos + (Utf8.decode ⟨l.toArray⟩ pos).2)) hb hat hB (at1_set c (.stringIter ⟨l.toArray⟩ (pos + (Utf8.decode ⟨l.toArray⟩ pos).2)) w) (by simp) (by simp) ⟨hB, rfl, hnew⟩
    refine ⟨.value (.tuple #[.bool true, goInt pos, .int .i32 (Utf8.decode ⟨l.toArray⟩ pos).1]), w1, c, ?_, ⟨_, rfl, .tuple (.cons (.bool _) (.cons (.int _ _) (.cons (.int _ _) .nil)))⟩, q1, fun es he => own_obj (at1_set c _ w) (siter_not_chan hc) (siter_not_chan hnew) (by simpa [w1] using hlt) he⟩
    refine .bind (v := .tuple #[.bool true, goInt pos, .int .i32 (Utf8.decode ⟨l.toArray⟩ pos).1]) ?_ (.pure _ _)
    unfold Instr.next
    simp only [Nat.zero_add]
    refine .bind hget.obj ?_
    simp only [hsz, if_pos hp]
    exact .bind (doesO_setObj hc (by simp)) (.pure _ _)
  · rename_i hp
    refine ⟨.value (.tuple #[.bool false]), w, c, ?_, ⟨_, rfl, .tuple (.cons (.bool _) .nil)⟩, hs, fun es he => own_obj (At1.refl c w) (siter_not_chan hc) (siter_not_chan hc) hlt he⟩
    refine .bind (v := .tuple #[.bool false]) ?_ (.pure _ _)
    unfold Instr.next
    simp only [Nat.zero_add]
    refine .bind hget.obj ?_
    simp only [hsz, if_neg hp]
    exact .pure _ _

/-! ### calls -/
theorem ret_enter {f : FuncId} (hc : aCallable P f = true) (args : Array Value) : Ret P (callFunc f args) (.enter f args) := by
  unfold aCallable at hc
  cases hf : P.funcs[f]? with
  | none => simp [hf] at hc
  | some fn =>
    simp only [hf, Bool.and_eq_true, Bool.not_eq_true'] at hc
    obtain ⟨h1, h2⟩ := hc
    unfold callFunc
    refine .bind ret_program ?_
    simp only [hf, h1, Bool.false_eq_true, if_false]
    have : fn.body.isNone = false := by cases hb : fn.body <;> simp [hb] at h2 ⊢
    rw [this]
    exact .pure _

theorem ret_listed {n : Next} (h : Ret P (execOp a.eval o) n) (fn : FuncId) (w : World) : (execOp a.eval o).run P w = .ok n w ∧ listed P fn a o w = #[] := by
  refine ⟨(h w).1, ?_⟩
  unfold listed
  rw [(h w).2]
  rfl

theorem call_value {c : Call} {x : Operand} {f : FuncId} {F C : List Value} (hc : c.callee = .value x) (hx : a.eval x = .func (.func f) F.toArray C.toArray) (hcal : aCallable P f = true) (ty : TypeId) :
    Ret P (do let d ← resolve a.eval c ty; invoke d.target d.args) (.enter f (F.toArray ++ c.args.map a.eval ++ C.toArray)) := by
  refine .bind (v := { target := .fn (.func f) C.toArray, args := F.toArray ++ c.args.map a.eval }) ?_ ?_
  · unfold resolve
    simp only [hc, hx, Deferred.ofValue]
    exact .pure _
  · unfold invoke
    exact ret_enter hcal _

theorem call_invoke {c : Call} {r : Operand} {name : String} {t : TypeId} {V : Value} {i : TypeInfo} {m : Method} {f : FuncId} {p : Bool} {d : TypeDesc} (hc : c.callee = .invoke r name) (hr : a.eval r = .iface t V) (hi : P.info? t = some i) (hm : i.methods.find? (·.name == name) = some m) (hp : m.path.isEmpty = true)
    (hf : m.func = some (f, p)) (hd : P.underlying t = some d) (hrecv : p = true ∧ (∃ e, d = .pointer e) ∨ p = false ∧ ∀ e, d ≠ .pointer e) (hcal : aCallable P f = true) (ty : TypeId) :
    Ret P (do let d ← resolve a.eval c ty; invoke d.target d.args) (.enter f (#[V] ++ c.args.map a.eval)) := by
  have hpath : m.path = #[] := by simpa using hp
  refine .bind (v := { target := .fn (.method name) #[], args := #[.iface t V] ++ c.args.map a.eval }) ?_ ?_
  · unfold resolve
    simp only [hc, hr]
    exact .pure _
  · unfold invoke
    have h0 : (#[Value.iface t V] ++ c.args.map a.eval)[0]? = some (.iface t V) := by
      rw [Array.getElem?_append_left (by simp)]; rfl
    have h1 : (#[Value.iface t V] ++ c.args.map a.eval).extract 1 (#[Value.iface t V] ++ c.args.map a.eval).size = c.args.map a.eval := by
      apply Array.ext'
      simp
      exact List.take_of_length_le (by simp)
    simp only [h0, h1]
    unfold callMethod
    simp only []
    refine .bind ret_program ?_
    refine .bind (v := (f, V)) ?_ (ret_enter hcal _)
    have hpos : P.types.size + Made.depth = (P.types.size + Made.depth - 1) + 1 := by
      have : Made.depth ≠ 0 := by decide
      omega
    rw [hpos]
    unfold method
    refine .bind (ret_info hi) ?_
    simp only [hm]
    simp only [hpath, hf]
    refine .bind (v := (t, .val V)) (.pure _) ?_
    simp only []
    refine .bind (v := V) ?_ (.pure _)
    unfold receiverAt
    refine .bind (ret_und hd) ?_
    rcases hrecv with ⟨rfl, e, rfl⟩ | ⟨rfl, hne⟩
    · exact .pure _
    · cases d <;> first
        | exact .pure _
        | exact absurd rfl (hne _)
end
end
end Go.Cx

/-
  EVERY OPERATION THAT THE INTERPRETER KNOWS.
-/
namespace Go.Cx
noncomputable section
open Go Go.Conc

/-- What is shown of each operation. -/
structure OpS (P : Program) (B : Nat) (w₀ : World) (K : List Nat) : Prop where
  val : ∀ {ρ : Operand → Option AV} {o : Oper} {h h' : AH} {v : AV} {env : Env} {s : Option (Nat × List AV)} {S : Option (Nat × List Value)} {w : World} {a : Act} (fn : FuncId),
    aop P ρ o h = some (.val v, h') → EvR env ρ a → HS P B w₀ K env h s S w →
    ∃ env' V w', env.le env' ∧ (execOp a.eval o).run P w = .ok (.value V) w' ∧ VR env' v V ∧ HS P B w₀ K env' h' s S w' ∧ Own w w' (listed P fn a o w)
  skip : ∀ {ρ : Operand → Option AV} {o : Oper} {h h' : AH} {env : Env} {s : Option (Nat × List AV)} {S : Option (Nat × List Value)} {w : World} {a : Act} (fn : FuncId),
    aop P ρ o h = some (.skip, h') → EvR env ρ a → HS P B w₀ K env h s S w →
    ∃ env' w', env.le env' ∧ (execOp a.eval o).run P w = .ok .skip w' ∧ HS P B w₀ K env' h' s S w' ∧ Own w w' (listed P fn a o w)
  call : ∀ {ρ : Operand → Option AV} {o : Oper} {h h' : AH} {f : FuncId} {args : List AV} {env : Env} {a : Act} (fn : FuncId),
    aop P ρ o h = some (.call f args, h') → EvR env ρ a →
    h' = h ∧ aCallable P f = true ∧ ∃ Args : Array Value, VRs env args Args.toList ∧ ∀ w, (execOp a.eval o).run P w = .ok (.enter f Args) w ∧ listed P fn a o w = #[]
  go : ∀ {ρ : Operand → Option AV} {o : Oper} {h h' : AH} {f : FuncId} {args : List AV} {env : Env} {a : Act} (fn : FuncId),
    aop P ρ o h = some (.go f args, h') → EvR env ρ a →
    h' = h ∧ ∃ Args : Array Value, VRs env args Args.toList ∧ ∀ w, (execOp a.eval o).run P w = .ok (.spawn { target := .fn (.func f) #[], args := Args }) w ∧ listed P fn a o w = #[]
  recv : ∀ {ρ : Operand → Option AV} {o : Oper} {h h' : AH} {b : Nat} {z : AV} {env : Env} {a : Act} (fn : FuncId),
    aop P ρ o h = some (.recv b z, h') → EvR env ρ a →
    h' = h ∧ ∃ ch Z, VR env (.chan (some b)) ch ∧ (∀ env', VR env' z Z) ∧ ∀ w, (execOp a.eval o).run P w = .ok (.comm #[{ chan := ch, send := none, zero := Z }] true (.recv true)) w ∧ listed P fn a o w = #[]

section
variable {P : Program} {B : Nat} {w₀ : World} {K : List Nat} {env : Env} {h h' : AH} {s : Option (Nat × List AV)} {S : Option (Nat × List Value)} {w w' : World} {ρ : Operand → Option AV} {a : Act} {v : AV} {o : Oper}

/-- Which result an operation has. -/
theorem retV_val {x : Option AV} {r : ARes} (e : retV h x = some (r, h')) : ∃ v, r = .val v := by
  obtain ⟨v, _, h2, _⟩ := retV_some' e
  exact ⟨v, h2⟩

theorem ValS.op {sem : Sem Value} {v : AV} (hx : ∀ {V w'}, Does P sem w V w' → Does P (execOp a.eval o) w (.value V) w') (fn : FuncId) (hv : ValS P B w₀ K env h' s S w sem v) :
    ∃ env' V w', env.le env' ∧ (execOp a.eval o).run P w = .ok (.value V) w' ∧ VR env' v V ∧ HS P B w₀ K env' h' s S w' ∧ Own w w' (listed P fn a o w) := by
  obtain ⟨env', V, w', h1, h2, h3, h4, h5⟩ := hv
  have h6 := hx h2
  exact ⟨env', V, w', h1, h6.1, h3, h4, h5 _ (h6.listed fn)⟩

theorem op_val (fn : FuncId) (ha : aop P ρ o h = some (.val v, h')) (hev : EvR env ρ a) (hs : HS P B w₀ K env h s S w) :
    ∃ env' V w', env.le env' ∧ (execOp a.eval o).run P w = .ok (.value V) w' ∧ VR env' v V ∧ HS P B w₀ K env' h' s S w' ∧ Own w w' (listed P fn a o w) := by
  by_cases hf : isFloat o = true
  · exact float_val hf ha hev hs fn
  · have hf : isFloat o = false := by simpa using hf
    have ha0 := ha
    unfold aop at ha
    unfold isFloat at hf
    cases hop : o.op with
    | mapEntry t m k =>
      simp only [hop] at ha
      split at ha
      · rename_i m' k' hm hk
        obtain ⟨v', e1, n, w', c, d1, ⟨V, rfl, d2⟩, d3, d4⟩ := mapEntry_sound hs ha (hev m _ hm) (hev k _ hk)
        cases e1
        have hx : DoesO P c (execOp a.eval o) w (.value V) w' := by unfold execOp; simp only [hop]; exact d1
        exact ⟨env, V, w', Env.le_refl env, hx.1, d2, d3, d4 _ (hx.listed fn)⟩
      · cases ha
    | range t x =>
      simp only [hop] at ha
      split at ha
      · rename_i l hx hu
        cases ha
        exact ValS.op (fun hd => by unfold execOp; simp only [hop]; exact .val hd) fn (range_sound hs hu (hev x _ hx))
      · cases ha
    | makeChan t x =>
      simp only [hop] at ha
      split at ha
      · rename_i k d e hx hu
        split at ha
        · rename_i i hi
          split at ha
          · rename_i hb
            cases ha
            exact ValS.op (fun hd => by unfold execOp; simp only [hop]; exact .val hd) fn (makeChan_sound hs hu hi hb (hev x _ hx))
          · cases ha
        · cases ha
      · cases ha
    | next it st =>
      cases st with
      | false => simp [hop] at ha
      | true =>
        simp only [hop] at ha
        split at ha
        · rename_i b hx
          split at ha
          · rename_i l pos hb
            have hn := next_sound (ty := o.type) hs hb (hev it _ hx)
            split at ha
            · rename_i hp
              rw [if_pos hp] at hn
              obtain ⟨n, w', c, d1, ⟨V, rfl, d2⟩, d3, d4⟩ := hn
              cases ha
              have hx : DoesO P c (execOp a.eval o) w (.value V) w' := by unfold execOp; simp only [hop]; exact d1
              exact ⟨env, V, w', Env.le_refl env, hx.1, d2, d3, d4 _ (hx.listed fn)⟩
            · rename_i hp
              rw [if_neg hp] at hn
              obtain ⟨n, w', c, d1, ⟨V, rfl, d2⟩, d3, d4⟩ := hn
              cases ha
              have hx : DoesO P c (execOp a.eval o) w (.value V) w' := by unfold execOp; simp only [hop]; exact d1
              exact ⟨env, V, w', Env.le_refl env, hx.1, d2, d3, d4 _ (hx.listed fn)⟩
          · cases ha
        · cases ha
    | call c =>
      simp only [hop] at ha
      unfold aCall at ha
      split at ha
      · cases ha
      · rename_i args hargs
        have hvr := evalAll_vrs hev hargs
        obtain ⟨callee, cargs, cts⟩ := c
        cases callee with
        | value f =>
          simp only at ha
          split at ha
          · split at ha <;> cases ha
          · cases ha
        | invoke r name =>
          simp only at ha
          repeat' split at ha
          all_goals first | (cases ha; done) | skip
        | builtin b =>
          simp only at ha
          have hcell : ∀ (sem : Sem Value), (∀ cs, builtin b cts o.type cs (cargs.map a.eval) = (do Pure.pure (Next.value (← sem)))) → ∀ {V w'}, Does P sem w V w' → Does P (execOp a.eval o) w (.value V) w' := by
            intro sem he V w' hd
            obtain ⟨cs, hres⟩ := resolve_builtin (P := P) (a := a) (c := ⟨.builtin b, cargs, cts⟩) (b := b) rfl o.type
            unfold execOp
            simp only [hop]
            refine .bind (hres.does w) ?_
            simp only [invoke, he]
            exact .val hd
          have hvr' : VRs env args (cargs.map a.eval).toList := by simpa using hvr
          cases b <;> simp only [hop] at hf <;> first
            | (cases hf; done)
            | skip
          case append =>
            obtain ⟨v', e1, hv⟩ := append_sound (ty := o.type) hs ha hvr'
            cases e1
            exact ValS.op (hcell _ fun cs => rfl) fn hv
          case copy =>
            obtain ⟨v', e1, hv⟩ := copy_sound (ty := o.type) hs ha hvr'
            cases e1
            exact ValS.op (hcell _ fun cs => rfl) fn hv
          case clear =>
            obtain ⟨v', e1, hv⟩ := clear_sound (ty := o.type) hs ha hvr'
            cases e1
            exact ValS.op (hcell _ fun cs => rfl) fn hv
          all_goals (simp [aBuiltin] at ha)
    | recv t ch ok =>
      cases ok with
      | false => simp [hop] at ha
      | true =>
        simp only [hop] at ha
        split at ha
        · obtain ⟨z, hz, hr⟩ := Option.map_eq_some_iff.1 ha
          cases hr
        · cases ha
    | go c =>
      simp only [hop] at ha
      split at ha <;> cases ha
    | store t x y =>
      simp only [hop] at ha
      split at ha
      · obtain ⟨z, hz, hr⟩ := Option.map_eq_some_iff.1 ha
        cases hr
      · cases ha
    | mapUpdate t m k x =>
      simp only [hop] at ha
      split at ha
      · obtain ⟨z, hz, hr⟩ := Option.map_eq_some_iff.1 ha
        cases hr
      · cases ha
    | entryStore t m st x =>
      simp only [hop] at ha
      split at ha
      · obtain ⟨z, hz, hr⟩ := Option.map_eq_some_iff.1 ha
        cases hr
      · cases ha
    | _ => simp [hop] at ha hf

/-- Which kind of result an operation has. -/
def Kind (o : Oper) (r : ARes) : Prop :=
  match o.op with
  | .store .. | .mapUpdate .. | .entryStore .. => r = .skip
  | .call _ => (∃ v, r = .val v) ∨ ∃ f args, r = .call f args
  | .go _ => ∃ f args, r = .go f args
  | .recv .. => ∃ b z, r = .recv b z
  | _ => ∃ v, r = .val v

theorem builtin_val {b : Builtin} {ts : List TypeId} {args : List AV} {r : ARes} (ha : aBuiltin P h b ts args = some (r, h')) : ∃ v, r = .val v := by
  unfold aBuiltin at ha
  split at ha
  · split at ha
    · exact retV_val ha
    · cases ha
  · unfold aAppend at ha
    repeat' split at ha
    all_goals first
      | (cases ha; done)
      | (cases ha; exact ⟨_, rfl⟩)
      | (obtain ⟨_, _, hr⟩ := Option.map_eq_some_iff.1 ha; cases hr; exact ⟨_, rfl⟩)
  · unfold aCopy at ha
    repeat' split at ha
    all_goals first
      | (cases ha; done)
      | (cases ha; exact ⟨_, rfl⟩)
      | (obtain ⟨_, _, hr⟩ := Option.map_eq_some_iff.1 ha; cases hr; exact ⟨_, rfl⟩)
  · unfold aClear at ha
    repeat' split at ha
    all_goals first
      | (cases ha; done)
      | (cases ha; exact ⟨_, rfl⟩)
      | (obtain ⟨_, _, hr⟩ := Option.map_eq_some_iff.1 ha; cases hr; exact ⟨_, rfl⟩)
  · exact retV_val ha
  · exact retV_val ha
  · cases ha

theorem aop_kind {r : ARes} (ha : aop P ρ o h = some (r, h')) : Kind o r := by
  unfold aop at ha
  unfold Kind
  cases hop : o.op <;> simp only [hop] at ha ⊢
  case call c =>
    unfold aCall at ha
    split at ha
    · cases ha
    · split at ha
      · exact .inl (builtin_val ha)
      · repeat' split at ha
        all_goals first
          | (cases ha; done)
          | (cases ha; exact .inr ⟨_, _, rfl⟩)
      · repeat' split at ha
        all_goals first
          | (cases ha; done)
          | (cases ha; exact .inr ⟨_, _, rfl⟩)
  case convert =>
    split at ha
    · unfold aConvert at ha
      repeat' split at ha
      all_goals first
        | (cases ha; done)
        | (cases ha; exact ⟨_, rfl⟩)
        | (obtain ⟨_, _, hr⟩ := Option.map_eq_some_iff.1 ha; cases hr; exact ⟨_, rfl⟩)
    · cases ha
  case makeMap t r0 =>
    cases r0 with
    | none =>
      simp only at ha
      split at ha <;> cases ha
      exact ⟨_, rfl⟩
    | some x => simp at ha
  case next it st =>
    cases st with
    | false => simp at ha
    | true =>
      simp only at ha
      repeat' split at ha
      all_goals first
        | (cases ha; done)
        | (cases ha; exact ⟨_, rfl⟩)
  case recv t ch ok =>
    cases ok with
    | false => simp at ha
    | true =>
      simp only at ha
      split at ha
      · obtain ⟨_, _, hr⟩ := Option.map_eq_some_iff.1 ha
        cases hr
        exact ⟨_, _, rfl⟩
      · cases ha
  case mapEntry =>
    split at ha
    · unfold aMapEntry at ha
      repeat' split at ha
      all_goals first
        | (cases ha; done)
        | (cases ha; exact ⟨_, rfl⟩)
        | (obtain ⟨_, _, hr⟩ := Option.map_eq_some_iff.1 ha; cases hr; exact ⟨_, rfl⟩)
    · cases ha
  all_goals first
    | (cases ha; done)
    | exact retV_val ha
    | skip
  all_goals repeat' split at ha
  all_goals first
    | (cases ha; done)
    | exact retV_val ha
    | (cases ha; exact ⟨_, rfl⟩)
    | (cases ha; exact ⟨_, _, rfl⟩)
    | (cases ha; rfl)
    | (obtain ⟨_, _, hr⟩ := Option.map_eq_some_iff.1 ha; cases hr; first | rfl | exact ⟨_, rfl⟩ | exact ⟨_, _, rfl⟩)

theorem op_skip (fn : FuncId) (ha : aop P ρ o h = some (.skip, h')) (hev : EvR env ρ a) (hs : HS P B w₀ K env h s S w) :
    ∃ env' w', env.le env' ∧ (execOp a.eval o).run P w = .ok .skip w' ∧ HS P B w₀ K env' h' s S w' ∧ Own w w' (listed P fn a o w) := by
  have hk := aop_kind ha
  unfold Kind at hk
  unfold aop at ha
  cases hop : o.op <;> simp only [hop] at hk <;> first
    | (obtain ⟨v, hv⟩ := hk; cases hv; done)
    | (rcases hk with ⟨v, hv⟩ | ⟨f, args, hv⟩ <;> cases hv; done)
    | (obtain ⟨f, args, hv⟩ := hk; cases hv; done)
    | skip
  case store t x y =>
    simp only [hop] at ha
    split at ha
    · rename_i b off v hx hy
      obtain ⟨h1, hst, hr⟩ := Option.map_eq_some_iff.1 ha
      cases hr
      obtain ⟨w', d1, d2, c, d3, d4, d5⟩ := store_sound hs hst (hev x _ hx) (hev y _ hy)
      have hd : Does P (execOp a.eval o) w .skip w' := by unfold execOp; simp only [hop]; exact .unit d1
      exact ⟨env, w', Env.le_refl env, hd.1, d2, own_put' d3 d4 d5 (hd.listed fn)⟩
    · cases ha
  case mapUpdate t m k x =>
    simp only [hop] at ha
    split at ha
    · rename_i m' k' v' hm hk' hv
      obtain ⟨h1, hst, hr⟩ := Option.map_eq_some_iff.1 ha
      cases hr
      obtain ⟨n, w', c, d1, rfl, d2, d3⟩ := mapUpdate_sound hs hst (hev m _ hm) (hev k _ hk') (hev x _ hv)
      have hd : DoesO P c (execOp a.eval o) w .skip w' := by unfold execOp; simp only [hop]; exact d1
      exact ⟨env, w', Env.le_refl env, hd.1, d2, d3 _ (hd.listed fn)⟩
    · cases ha
  case entryStore t m st x =>
    simp only [hop] at ha
    split at ha
    · rename_i m' k' v' hm hk' hv
      obtain ⟨h1, hst, hr⟩ := Option.map_eq_some_iff.1 ha
      cases hr
      obtain ⟨n, w', c, d1, rfl, d2, d3⟩ := entryStore_sound (t := t) hs hst (hev m _ hm) (hev st _ hk') (hev x _ hv)
      have hd : DoesO P c (execOp a.eval o) w .skip w' := by unfold execOp; simp only [hop]; exact d1
      exact ⟨env, w', Env.le_refl env, hd.1, d2, d3 _ (hd.listed fn)⟩
    · cases ha

theorem op_call {f : FuncId} {args : List AV} (fn : FuncId) (ha : aop P ρ o h = some (.call f args, h')) (hev : EvR env ρ a) :
    h' = h ∧ aCallable P f = true ∧ ∃ Args : Array Value, VRs env args Args.toList ∧ ∀ w, (execOp a.eval o).run P w = .ok (.enter f Args) w ∧ listed P fn a o w = #[] := by
  have hk := aop_kind ha
  unfold Kind at hk
  unfold aop at ha
  cases hop : o.op <;> simp only [hop] at hk <;> first
    | (obtain ⟨v, hv⟩ := hk; cases hv; done)
    | (obtain ⟨f, args, hv⟩ := hk; cases hv; done)
    | (cases hk; done)
    | skip
  rename_i c
  simp only [hop] at ha
  have fin : ∀ Args : Array Value, VRs env args Args.toList → Ret P (do let d ← resolve a.eval c o.type; invoke d.target d.args) (.enter f Args) → ∃ Args : Array Value, VRs env args Args.toList ∧ ∀ w, (execOp a.eval o).run P w = .ok (.enter f Args) w ∧ listed P fn a o w = #[] := by
    intro Args hA hr
    refine ⟨Args, hA, fun w => ret_listed ?_ fn w⟩
    unfold execOp
    simp only [hop]
    exact hr
  unfold aCall at ha
  split at ha
  · cases ha
  · rename_i as hargs
    have hvr := evalAll_vrs hev hargs
    split at ha
    · obtain ⟨v, hv⟩ := builtin_val ha
      cases hv
    · rename_i x hc
      split at ha
      · rename_i g first cap hx
        split at ha
        · rename_i hcal
          cases ha
          have hv := hev x _ hx
          generalize hX : a.eval x = X at hv
          cases hv with
          | @func _ _ _ F C hF hC =>
            refine ⟨rfl, hcal, fin _ ?_ (call_value hc hX hcal o.type)⟩
            have := (hF.append hvr).append hC
            simpa using this
        · cases ha
      · cases ha
    · rename_i r name hc
      split at ha
      · rename_i t v hx
        split at ha
        · rename_i i hi
          split at ha
          · rename_i m hm
            split at ha
            · rename_i hp
              have hv := hev r _ hx
              generalize hX : a.eval r = X at hv
              cases hv with
              | @iface _ _ V hV =>
                have hA : VRs env (v :: as) (#[V] ++ c.args.map a.eval).toList := by
                  have := VRs.cons hV hvr
                  simpa using this
                split at ha
                · rename_i g e hf hd
                  split at ha
                  · rename_i hcal
                    cases ha
                    exact ⟨rfl, hcal, fin _ hA (call_invoke hc hX hi hm hp hf hd (.inl ⟨rfl, e, rfl⟩) hcal o.type)⟩
                  · cases ha
                · cases ha
                · rename_i g d hne hf hd
                  split at ha
                  · rename_i hcal
                    cases ha
                    exact ⟨rfl, hcal, fin _ hA (call_invoke hc hX hi hm hp hf hd (.inr ⟨rfl, fun e he => hne _ he⟩) hcal o.type)⟩
                  · cases ha
                · cases ha
            · cases ha
          · cases ha
        · cases ha
      · cases ha

theorem op_go {f : FuncId} {args : List AV} (fn : FuncId) (ha : aop P ρ o h = some (.go f args, h')) (hev : EvR env ρ a) :
    h' = h ∧ ∃ Args : Array Value, VRs env args Args.toList ∧ ∀ w, (execOp a.eval o).run P w = .ok (.spawn { target := .fn (.func f) #[], args := Args }) w ∧ listed P fn a o w = #[] := by
  have hk := aop_kind ha
  unfold Kind at hk
  unfold aop at ha
  cases hop : o.op <;> simp only [hop] at hk <;> first
    | (obtain ⟨v, hv⟩ := hk; cases hv; done)
    | (rcases hk with ⟨v, hv⟩ | ⟨f, args, hv⟩ <;> cases hv; done)
    | (cases hk; done)
    | (obtain ⟨f, args, hv⟩ := hk; cases hv; done)
    | skip
  rename_i c
  simp only [hop] at ha
  split at ha
  · rename_i as g hargs hc
    cases ha
    have hvr := evalAll_vrs hev hargs
    refine ⟨rfl, #[] ++ c.args.map a.eval, by simpa using hvr, fun w => ret_listed ?_ fn w⟩
    unfold execOp
    simp only [hop]
    refine .bind (v := { target := .fn (.func f) #[], args := #[] ++ c.args.map a.eval }) ?_ (.pure _)
    unfold resolve
    simp only [hc, Act.eval, Deferred.ofValue]
    exact .pure _
  · cases ha

theorem op_recv {b : Nat} {z : AV} (fn : FuncId) (ha : aop P ρ o h = some (.recv b z, h')) (hev : EvR env ρ a) :
    h' = h ∧ ∃ ch Z, VR env (.chan (some b)) ch ∧ (∀ env', VR env' z Z) ∧ ∀ w, (execOp a.eval o).run P w = .ok (.comm #[{ chan := ch, send := none, zero := Z }] true (.recv true)) w ∧ listed P fn a o w = #[] := by
  have hk := aop_kind ha
  unfold Kind at hk
  unfold aop at ha
  cases hop : o.op <;> simp only [hop] at hk <;> first
    | (obtain ⟨v, hv⟩ := hk; cases hv; done)
    | (rcases hk with ⟨v, hv⟩ | ⟨f, args, hv⟩ <;> cases hv; done)
    | (cases hk; done)
    | (obtain ⟨f, args, hv⟩ := hk; cases hv; done)
    | skip
  rename_i t ch ok
  cases ok with
  | false => simp [hop] at ha
  | true =>
    simp only [hop] at ha
    split at ha
    · rename_i b' d e hx hu
      obtain ⟨z', hz, hr⟩ := Option.map_eq_some_iff.1 ha
      cases hr
      obtain ⟨Z, hZ, hzz⟩ := ret_zero hz
      refine ⟨rfl, a.eval ch, Z, hev ch _ hx, hzz, fun w => ret_listed ?_ fn w⟩
      unfold execOp
      simp only [hop]
      refine .bind (ret_und hu) ?_
      simp only []
      exact .bind hZ (.pure _)
    · cases ha

theorem opS : OpS P B w₀ K := ⟨op_val, op_skip, op_call, op_go, op_recv⟩
end
end
end Go.Cx

/-
  AN OPERATION SEES ITS OPERANDS ALONE; ONE THAT FLOATS SEES OF THE HEAP AT MOST WHAT IT READS.
-/
namespace Go.Cx
noncomputable section
open Go Go.Conc
section
variable {P : Program} {h h' : AH} {ρ ρ' : Operand → Option AV} {v : AV} {o : Oper}

theorem evalAll_congr : ∀ {l : List Operand}, (∀ x ∈ l, ρ x = ρ' x) → evalAll ρ l = evalAll ρ' l
  | [], _ => rfl
  | x :: l, hx => by simp only [evalAll, hx x (by simp), evalAll_congr (l := l) fun y hy => hx y (by simp [hy])]
theorem evalParts_congr : ∀ {l : List (Nat × Operand)}, (∀ x ∈ l.map (·.2), ρ x = ρ' x) → evalParts ρ l = evalParts ρ' l
  | [], _ => rfl
  | (i, x) :: l, hx => by simp only [evalParts, hx x (by simp), evalParts_congr (l := l) fun y hy => hx y (by simp only [List.map_cons, List.mem_cons]; exact .inr hy)]
theorem evalOpt_congr {x : Option Operand} (hx : ∀ y ∈ x.toList, ρ y = ρ' y) : evalOpt ρ x = evalOpt ρ' x := by
  cases x with
  | none => rfl
  | some y => simp only [evalOpt, hx y (by simp)]

theorem aCall_congr {c : Call} (hx : ∀ x ∈ c.operands.toList, ρ x = ρ' x) : aCall P ρ c h = aCall P ρ' c h := by
  unfold aCall
  have h1 : evalAll ρ c.args.toList = evalAll ρ' c.args.toList := evalAll_congr fun x hm => hx x (by unfold Call.operands; rw [Array.toList_append]; exact List.mem_append_right _ hm)
  rw [h1]
  unfold Call.operands at hx
  cases hc : c.callee with
  | builtin b => rfl
  | value f =>
    simp only [hc] at hx
    simp only [hx f (by simp)]
  | invoke r name =>
    simp only [hc] at hx
    simp only [hx r (by simp)]

theorem aop_congr (hx : ∀ x ∈ o.op.operands.toList, ρ x = ρ' x) : aop P ρ o h = aop P ρ' o h := by
  unfold aop
  unfold Op.operands at hx
  cases hop : o.op <;> simp only [hop] at hx ⊢
  case build t ps => rw [evalParts_congr (l := ps.toList) (by simpa using hx)]
  case buildSlice t n ps => rw [evalParts_congr (l := ps.toList) (by simpa using hx)]
  case makeFunc fn f c =>
    rw [Array.toList_append] at hx
    rw [evalAll_congr (l := f.toList) fun y hy => hx y (List.mem_append_left _ hy), evalAll_congr (l := c.toList) fun y hy => hx y (List.mem_append_right _ hy)]
  case slice t x l hh m =>
    have h0 := hx x (by simp)
    have h1 : evalOpt ρ l = evalOpt ρ' l := evalOpt_congr fun y hy => hx y (by simp only [Array.toList_append, List.mem_append]; left; left; right; simpa using hy)
    have h2 : evalOpt ρ hh = evalOpt ρ' hh := evalOpt_congr fun y hy => hx y (by simp only [Array.toList_append, List.mem_append]; left; right; simpa using hy)
    have h3 : evalOpt ρ m = evalOpt ρ' m := evalOpt_congr fun y hy => hx y (by simp only [Array.toList_append, List.mem_append]; right; simpa using hy)
    rw [h0, h1, h2, h3]
  case call c => exact aCall_congr hx
  case go c =>
    have h1 : evalAll ρ c.args.toList = evalAll ρ' c.args.toList := evalAll_congr fun x hm => hx x (by unfold Call.operands; rw [Array.toList_append]; exact List.mem_append_right _ hm)
    rw [h1]
  case makeMap t r =>
    cases r <;> rfl
  case pick c a b =>
    rw [hx c (by simp), hx a (by simp), hx b (by simp)]
  case next x st =>
    cases st
    · rfl
    · simp only [hx x (by simp)]
  case recv t x ok =>
    cases ok
    · rfl
    · simp only [hx x (by simp)]
  all_goals first
    | rfl
    | (rename_i x; rw [hx x (by simp)]; done)
    | (rename_i x y; rw [hx x (by simp), hx y (by simp)]; done)
    | (rename_i x y; rw [hx x (by simp)]; done)
    | (rename_i x y z; rw [hx x (by simp), hx y (by simp), hx z (by simp)]; done)
    | (rename_i x y z; rw [hx x (by simp), hx y (by simp)]; done)
    | (rename_i x y z; rw [hx x (by simp)]; done)
    | (rename_i x y z u; rw [hx y (by simp), hx z (by simp), hx u (by simp)]; done)
    | (rename_i x y z u; rw [hx x (by simp), hx y (by simp), hx z (by simp)]; done)
    | (rename_i x y z u; rw [hx x (by simp)]; done)

/-- The one heap holds what the other holds. -/
def Ext (h h2 : AH) : Prop := ∀ b blk, h.t.get b = some blk → h2.t.get b = some blk
theorem Ext.refl (h : AH) : Ext h h := fun _ _ hb => hb
theorem Ext.trans {h1 h2 h3 : AH} (a : Ext h1 h2) (b : Ext h2 h3) : Ext h1 h3 := fun k blk hk => b k blk (a k blk hk)
theorem ext_push {h : AH} {blk : ABlk} (hn : h.t.get h.n = none) : Ext h (h.push blk) := fun b k hb => by
  simp only [AH.push, T.get_set]
  rw [if_neg (fun e => by subst e; rw [hn] at hb; cases hb)]
  exact hb

theorem cellsAt_ext {h2 : AH} (he : Ext h h2) {b o m : Nat} {l : List AV} (hh : aCellsAt h b o m = some l) : aCellsAt h2 b o m = some l := by
  unfold aCellsAt at *
  split at hh
  · rename_i e n c op ro hb
    rw [he _ _ hb]
    exact hh
  · cases hh
theorem load_ext {h2 : AH} (he : Ext h h2) {t : TypeId} {b o : Nat} (hh : aLoad P h t b o = some v) : aLoad P h2 t b o = some v := by
  unfold aLoad at *
  split at hh
  · rename_i e n c op ro hb
    rw [he _ _ hb]
    exact hh
  · cases hh
theorem len_ext {h2 : AH} (he : Ext h h2) {t : TypeId} {x : AV} (hh : aLen P t h x = some v) : aLen P t h2 x = some v := by
  unfold aLen at *
  split at hh <;> first
    | exact hh
    | (split at hh
       · rename_i es c hb
         rw [he _ _ hb]
         exact hh
       · cases hh)
theorem entries_ext {h2 : AH} (he : Ext h h2) {x : AV} {es : List (AV × AV × Nat)} (hh : aEntries h x = some es) : aEntries h2 x = some es := by
  unfold aEntries at *
  split at hh
  · exact hh
  · split at hh
    · rename_i es' c hb
      simp only [he _ _ hb]
      exact hh
    · cases hh
  · cases hh
theorem lookup_ext {h2 : AH} (he : Ext h h2) {t : TypeId} {x k : AV} {ok : Bool} (hh : aLookup P h t x k ok = some v) : aLookup P h2 t x k ok = some v := by
  unfold aLookup at *
  split at hh
  · split at hh
    · cases hh
    · rename_i es hes
      rw [entries_ext he hes]
      exact hh
  · cases hh

theorem isFlo_float (hf : isFlo P o = true) : isFloat o = true := by
  unfold isFlo at hf
  unfold isFloat
  cases hop : o.op <;> simp only [hop] at hf ⊢ <;> first
    | rfl
    | (exfalso; unfold isFloat at hf; simp [hop] at hf; done)
    | (unfold isFloat at hf; simpa [hop] using hf)

theorem flo_pure (hf : isFlo P o = true) (hm : isMake o = false) (ha : aop P ρ o h = some (.val v, h')) : h' = h ∧ ∀ h2, (isRead o = true → Ext h h2) → aop P ρ o h2 = some (.val v, h2) := by
  have hff := isFlo_float hf
  unfold aop at ha ⊢
  unfold isFloat at hff
  unfold isMake at hm
  unfold isRead
  cases hop : o.op <;> simp only [hop] at ha hf hff hm ⊢ <;> first
    | (cases hff; done)
    | (cases hm; done)
    | skip
  case typeAssert x xt t ok =>
    split at ha
    · split at ha
      · rename_i hc
        obtain ⟨m, hmm, hr⟩ := Option.map_eq_some_iff.1 ha
        cases hr
        exact ⟨rfl, fun h2 _ => by simp only [hc, if_true, hmm]; rfl⟩
      · cases ha
    · cases ha
    · rename_i u v' d hne hx hu
      by_cases e : u = t
      · rw [if_pos e] at ha
        cases ha
        exact ⟨rfl, fun h2 _ => by simp only [if_pos e]⟩
      · rw [if_neg e] at ha
        cases ok with
        | false => cases ha
        | true =>
          simp only [if_true] at ha
          obtain ⟨m, hmm, hr⟩ := Option.map_eq_some_iff.1 ha
          cases hr
          exact ⟨rfl, fun h2 _ => by simp only [if_neg e, if_true, hmm]; rfl⟩
    · cases ok with
      | false => cases ha
      | true =>
        simp only [if_true] at ha
        obtain ⟨m, hmm, hr⟩ := Option.map_eq_some_iff.1 ha
        cases hr
        exact ⟨rfl, fun h2 _ => by simp only [if_true, hmm]; rfl⟩
    · cases ha
  case pick c x y =>
    split at ha
    · obtain ⟨v', h1, h2, rfl⟩ := retV_some' ha
      cases h2
      exact ⟨rfl, fun h2 _ => by rw [h1]; rfl⟩
    · cases ha
  case load t x =>
    split at ha
    · rename_i b off hx
      obtain ⟨v', h1, h2, rfl⟩ := retV_some' ha
      cases h2
      exact ⟨rfl, fun h2 he => by simp only [load_ext (he trivial) h1]; rfl⟩
    · cases ha
  case lookup t x i ok =>
    split at ha
    · rename_i u j hx hi
      obtain ⟨v', h1, h2, rfl⟩ := retV_some' ha
      cases h2
      exact ⟨rfl, fun h2 he => by simp only [lookup_ext (he trivial) h1]; rfl⟩
    · cases ha
  case convert s d x =>
    split at ha
    · rename_i u hx
      have hd : ∀ e, P.underlying d ≠ some (.slice e) := fun e he => by simp [isFlo, hop, he] at hf
      unfold aConvert at ha ⊢
      split at ha
      · cases ha; exact ⟨rfl, fun _ _ => rfl⟩
      · cases ha; exact ⟨rfl, fun _ _ => rfl⟩
      · rename_i hu1 hu2; exact absurd hu2 (hd _)
      · split at ha
        · cases ha; exact ⟨rfl, fun _ _ => rfl⟩
        · split at ha
          · rename_i l hl
            obtain ⟨m, hmm, hr⟩ := Option.map_eq_some_iff.1 ha
            cases hr
            refine ⟨rfl, fun h2 he => ?_⟩
            simp only [cellsAt_ext (he trivial) hl, hmm]
            rfl
          · cases ha
        · cases ha
      · cases ha
    · cases ha
  case call c =>
    unfold aCall at ha ⊢
    split at ha
    · cases ha
    · rename_i args hargs
      obtain ⟨callee, cargs, cts⟩ := c
      cases callee with
      | value f => simp at hff
      | invoke r n => simp at hff
      | builtin b =>
        cases b <;> first
          | (simp at hff; done)
          | skip
        all_goals simp only [aBuiltin] at ha ⊢
        · split at ha
          · obtain ⟨v', h1, h2, rfl⟩ := retV_some' ha
            cases h2
            exact ⟨rfl, fun h2 he => by simp only [len_ext (he trivial) h1]; rfl⟩
          · cases ha
        · obtain ⟨v', h1, h2, rfl⟩ := retV_some' ha
          cases h2
          exact ⟨rfl, fun h2 he => by rw [h1]; rfl⟩
        · obtain ⟨v', h1, h2, rfl⟩ := retV_some' ha
          cases h2
          exact ⟨rfl, fun h2 he => by rw [h1]; rfl⟩
  all_goals repeat' split at ha
  all_goals first
    | (cases ha; done)
    | (obtain ⟨v', h1, h2, rfl⟩ := retV_some' ha; cases h2; exact ⟨rfl, fun h2 _ => by first | rw [h1]; rfl | (simp only [h1]; rfl)⟩)
    | (cases ha; exact ⟨rfl, fun _ _ => rfl⟩)
    | (obtain ⟨m, hmm, hr⟩ := Option.map_eq_some_iff.1 ha; cases hr; exact ⟨rfl, fun h2 _ => by first | rw [hmm]; rfl | (simp only [hmm]; rfl)⟩)

theorem push_inj {h : AH} {b b' : ABlk} (e : h.push b = h.push b') : b = b' := by
  have h1 := push_get h b
  have h2 := push_get h b'
  rw [e] at h1
  have : (some b' : Option ABlk) = some b := h2.symm.trans h1
  exact (Option.some.inj this).symm
theorem push_ne {h : AH} {b : ABlk} (e : h.push b = h) : False := by
  have : (h.push b).n = h.n := by rw [e]
  simp [AH.push] at this
theorem mk_inj {mk mk' : Nat → AV} {n : Nat} (h1 : Mk mk) (h2 : Mk mk') (e : mk n = mk' n) : mk = mk' := by
  cases h1 <;> cases h2 <;> simp at e ⊢
  all_goals simp_all
theorem mk_inj' {mk mk' : Nat → AV} {n m : Nat} (h1 : Mk mk) (h2 : Mk mk') (e : mk n = mk' m) : mk = mk' ∧ n = m := by
  cases h1 <;> cases h2 <;> simp at e ⊢
  · exact e
  · obtain ⟨rfl, rfl, rfl, rfl⟩ := e
    simp
  · exact e

theorem flo_make (_hf : isFlo P o = true) (hm : isMake o = true) (ha : aop P ρ o h = some (.val v, h')) : ∃ mk blk, Mk mk ∧ Plain blk ∧ h' = h.push blk ∧ v = mk h.n ∧ ∀ h2, aop P ρ o h2 = some (.val (mk h2.n), h2.push blk) := by
  unfold aop at ha ⊢
  unfold isMake at hm
  cases hop : o.op <;> simp only [hop] at ha hm ⊢ <;> first
    | (cases hm; done)
    | skip
  case alloc e =>
    split at ha
    · rename_i z hz
      split at ha
      · rename_i b h1 hn
        obtain ⟨g1, g2, g3⟩ := aNew_some hn
        cases g3; cases ha
        refine ⟨_, _, .ptr, ?_, rfl, rfl, fun h2 => ?_⟩
        · exact trivial
        have : aNew P h2 e z.cells false = some (h2.n, h2.push (.cells e z.cells.length (T.ofList z.cells) false false)) := by
          unfold aNew at hn ⊢
          split at hn
          · rename_i hc; rw [if_pos hc]
          · cases hn
        simp only [this]
      · cases ha
    · cases ha
  case box e x =>
    split at ha
    · rename_i z hz
      split at ha
      · rename_i b h1 hn
        obtain ⟨g1, g2, g3⟩ := aNew_some hn
        cases g3; cases ha
        refine ⟨_, _, .ptr, ?_, rfl, rfl, fun h2 => ?_⟩
        · exact trivial
        have : aNew P h2 e z.cells false = some (h2.n, h2.push (.cells e z.cells.length (T.ofList z.cells) false false)) := by
          unfold aNew at hn ⊢
          split at hn
          · rename_i hc; rw [if_pos hc]
          · cases hn
        simp only [this]
      · cases ha
    · cases ha
  case buildSlice t len parts =>
    split at ha
    · rename_i ps elem hps hu
      split at ha
      · rename_i size z hsz hz
        split at ha
        · rename_i hc
          split at ha
          · rename_i l hl
            split at ha
            · rename_i b h1 hn
              obtain ⟨g1, g2, g3⟩ := aNew_some hn
              cases g3; cases ha
              refine ⟨_, _, .slice _ _ _, ?_, rfl, rfl, fun h2 => ?_⟩
              · exact trivial
              have : aNew P h2 elem l false = some (h2.n, h2.push (.cells elem l.length (T.ofList l) false false)) := by
                unfold aNew at hn ⊢
                split at hn
                · rename_i hc; rw [if_pos hc]
                · cases hn
              simp only [if_pos hc, this]
            · cases ha
          · cases ha
        · cases ha
      · cases ha
    · cases ha
  case makeMap t r =>
    cases r with
    | none =>
      simp only at ha ⊢
      split at ha
      · rename_i hc
        cases ha
        refine ⟨_, _, .map, ?_, rfl, rfl, fun h2 => by rw [if_pos hc]⟩
        exact trivial
      · cases ha
    | some x => simp at ha
  case makeSlice t l c =>
    split at ha
    · rename_i k n k' n' e hl hc hu
      split at ha
      · rename_i size bytes z hsz hby hz
        split at ha
        · rename_i hcond
          split at ha
          · rename_i b h1 hn
            obtain ⟨g1, g2, g3⟩ := aNew_some hn
            cases g3; cases ha
            refine ⟨_, _, .slice _ _ _, ?_, rfl, rfl, fun h2 => ?_⟩
            · exact trivial
            have : aNew P h2 e (aRep z.cells n'.toNat) false = some (h2.n, h2.push (.cells e (aRep z.cells n'.toNat).length (T.ofList (aRep z.cells n'.toNat)) false false)) := by
              unfold aNew at hn ⊢
              split at hn
              · rename_i hc; rw [if_pos hc]
              · cases hn
            simp only [if_pos hcond, this]
          · cases ha
        · cases ha
      · cases ha
    · cases ha
end
end
end Go.Cx

