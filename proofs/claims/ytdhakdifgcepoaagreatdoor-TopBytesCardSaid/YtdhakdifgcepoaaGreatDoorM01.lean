/-
  THE MACHINE PART: goroutine 0 goes its own way, beside goroutines that only leave and at most one that sends over a channel without a buffer and closes it ('Runs', 'Snd'); on whatever tape the run ends, in 'Good' ('runs_ends'). ..
-/
import Derived.Conc.Beside
import Derived.Conc.CrowdComm
import Derived.Conc.LeavingOf
import Derived.Conc.Events
import Derived.Conc.Own5
import Derived.Laws.Strings
import Derived.Laws.Strings2
import Derived.Laws.StructEq
/-
  THE MACHINE PART: goroutine 0 goes its own way, beside goroutines that only leave and at most one that sends over a channel without a buffer and closes it ('Runs', 'Snd'); on whatever tape the run ends, in 'Good' ('runs_ends').
-/
namespace Go.Cx
noncomputable section
open Go Go.Conc
open Go.ConcN (sumTo upd sumTo_upd upd_ne upd_same)

def IsChan (w : World) (k : Nat) : Prop := ∃ cap buf cl s r tm, w.heap[k]? = some (.chan cap buf cl s r tm)
theorem IsChan.of_eq {w w' : World} {k : Nat} (h : w'.heap[k]? = w.heap[k]?) : IsChan w' k ↔ IsChan w k := by unfold IsChan; rw [h]
theorem IsChan.lt {w : World} {k : Nat} (h : IsChan w k) : k < w.heap.size := by
  obtain ⟨_, _, _, _, _, _, h⟩ := h
  rcases Nat.lt_or_ge k w.heap.size with h' | h'
  · exact h'
  · rw [Array.getElem?_eq_none h'] at h; cases h

/-- What the others may do to the world between two steps of goroutine 0's: the active channel's block and the count of draws turn. -/
structure Rel (c : Option Nat) (w w₁ : World) : Prop where
  tape : w₁.tape = w.tape
  os : w₁.os = w.os
  output : w₁.output = w.output
  size : w₁.heap.size = w.heap.size
  block : ∀ k, c ≠ some k → w₁.heap[k]? = w.heap[k]?
  chan : ∀ k, IsChan w k → IsChan w₁ k
theorem Rel.refl (c : Option Nat) (w : World) : Rel c w w := ⟨rfl, rfl, rfl, rfl, fun _ _ => rfl, fun _ h => h⟩
theorem Rel.trans {c : Option Nat} {a b d : World} (h : Rel c a b) (h' : Rel c b d) : Rel c a d :=
  ⟨h'.tape.trans h.tape, h'.os.trans h.os, h'.output.trans h.output, h'.size.trans h.size, fun k hk => (h'.block k hk).trans (h.block k hk), fun k hk => h'.chan k (h.chan k hk)⟩
theorem Rel.at (c : Option Nat) (w : World) (d : Nat) : Rel c w (w.at d) := ⟨rfl, rfl, rfl, rfl, fun _ _ => rfl, fun _ h => h⟩
theorem Rel.put (c : Nat) (w : World) {cap : Nat} {buf : Array Value} {cl : Bool} {s r : Nat} {tm : Bool} : Rel (some c) w { w with heap := w.heap.setIfInBounds c (.chan cap buf cl s r tm) } :=
  ⟨rfl, rfl, rfl, by simp, fun k hk => by
    have : c ≠ k := fun e => hk (by rw [e])
    simp [this], fun k hk => by
    by_cases hck : c = k
    · subst hck
      exact ⟨cap, buf, cl, s, r, tm, by simp [hk.lt]⟩
    · exact (IsChan.of_eq (by simp [hck])).2 hk⟩
theorem Rel.none_some {c : Option Nat} {w w₁ : World} (h : Rel none w w₁) : Rel c w w₁ := ⟨h.tape, h.os, h.output, h.size, fun k _ => h.block k (by simp), h.chan⟩

/-- What a step of goroutine 0's keeps, and what it may list. -/
structure Own (w w' : World) (es : Array Event) : Prop where
  chan : ∀ k, IsChan w k → w'.heap[k]? = w.heap[k]?
  old : ∀ k, k < w.heap.size → ¬ IsChan w k → ¬ IsChan w' k
  grow : w.heap.size ≤ w'.heap.size
  marks : ∀ e ∈ es, ∀ m, e.loc = .mark m → Neutral m
  objs : ∀ e ∈ es, ∀ c, e.loc = .obj c → e.write = true → c < w'.heap.size ∧ ¬ IsChan w' c

/-- The sender: at most n own steps from its next stop, each the same in every world; it sends these values over c, closes c, and leaves. -/
inductive Snd (P : Program) (c : Nat) : Nat → List Value → Goroutine → Prop
  | step {n : Nat} {vs : List Value} {g g' : Goroutine} (hr : g.status = .running) (h : ∀ w, stepG P false g w = .go g' w #[]) (k : Snd P c n vs g') : Snd P c (n + 1) vs g
  | send {n m : Nat} {v : Value} {vs : List Value} {g g₂ : Goroutine} {z : Value} (hr : g.status = .running) (h : ∀ w, stepG P false g w = .comm g₂ #[scase c v z] true .send w #[])
      (k : Snd P c m vs (Conc.served g₂ undef)) : Snd P c n (v :: vs) g
  | close {n : Nat} {g g₂ : Goroutine} (hr : g.status = .running) (hw : mayWake P g = true)
      (h : ∀ w s r tm, w.heap[c]? = some (.chan 0 #[] false s r tm) → stepG P false g w = .go g₂ (w.shut c s r tm) #[⟨.obj c, false, true⟩, ⟨.obj c, true, true⟩]) (k : QuitsIn P n g₂) : Snd P c n [] g
theorem Snd.running {P : Program} {c n : Nat} {vs : List Value} {g : Goroutine} (h : Snd P c n vs g) : g.status = .running := by cases h <;> assumption

abbrev act (s : Option (Nat × List Value)) : Option Nat := s.map (·.1)

/-- Goroutine 0's own way. -/
inductive Runs (P : Program) (Post : Value → World → Prop) : Option (Nat × List Value) → Goroutine → World → Prop
  | fin {g : Goroutine} {w : World} (hr : g.status = .running)
      (h : ∀ w₁, Rel none w w₁ → ∃ v es, stepG P true g w₁ = .ended (.done v) w₁ es ∧ Own w₁ w₁ es ∧ Post v w₁) : Runs P Post none g w
  | step {s : Option (Nat × List Value)} {g : Goroutine} {w : World} (hr : g.status = .running) (G' : World → Goroutine) (W' : World → World) (E : World → Array Event)
      (h : ∀ w₁, Rel (act s) w w₁ → stepG P true g w₁ = .go (G' w₁) (W' w₁) (E w₁) ∧ Own w₁ (W' w₁) (E w₁))
      (n : ∀ w₁, Rel (act s) w w₁ → Runs P Post s (G' w₁) (W' w₁)) : Runs P Post s g w
  | spawn {c : Nat} {vs : List Value} {g : Goroutine} {w : World} (hr : g.status = .running) (G' C' : World → Goroutine) (E : World → Array Event)
      (h : ∀ w₁, Rel none w w₁ → stepG P true g w₁ = .spawn (G' w₁) (C' w₁) w₁ (E w₁) ∧ Own w₁ w₁ (E w₁) ∧ (G' w₁).status = .running ∧ (∃ m, Snd P c m vs (C' w₁)) ∧ ∃ s r tm, w₁.heap[c]? = some (.chan 0 #[] false s r tm))
      (n : ∀ w₁, Rel none w w₁ → Runs P Post (some (c, vs)) (G' w₁) w₁) : Runs P Post none g w
  | recv {c : Nat} {v : Value} {vs : List Value} {g : Goroutine} {w : World} (hr : g.status = .running) (z : Value) (E : World → Array Event)
      (h : ∀ w₁, Rel (some c) w w₁ → stepG P true g w₁ = .comm (core g) #[rcase c z] true (.recv true) w₁ (E w₁) ∧ Own w₁ w₁ (E w₁))
      (n : ∀ w₁, Rel (some c) w w₁ → Runs P Post (some (c, vs)) (Conc.served (core g) (.tuple #[v, .bool true])) w₁) : Runs P Post (some (c, v :: vs)) g w
  | shut {c : Nat} {g : Goroutine} {w : World} (hr : g.status = .running) (z : Value) (E : World → Array Event)
      (h : ∀ w₁, Rel (some c) w w₁ → stepG P true g w₁ = .comm (core g) #[rcase c z] true (.recv true) w₁ (E w₁) ∧ Own w₁ w₁ (E w₁))
      (n : ∀ w₁, Rel (some c) w w₁ → Runs P Post none (Conc.served (core g) (.tuple #[z, .bool false])) w₁) : Runs P Post (some (c, [])) g w

section
variable {P : Program} {Post : Value → World → Prop}
theorem Runs.running {s : Option (Nat × List Value)} {g : Goroutine} {w : World} (h : Runs P Post s g w) : g.status = .running := by cases h <;> assumption
theorem Runs.rely {s : Option (Nat × List Value)} {g : Goroutine} {w w₁ : World} (h : Runs P Post s g w) (hr : Rel (act s) w w₁) : Runs P Post s g w₁ := by
  cases h with
  | fin h1 h => exact .fin h1 fun w₂ h₂ => h w₂ (hr.trans h₂)
  | step h1 G' W' E h n => exact .step h1 G' W' E (fun w₂ h₂ => h w₂ (hr.trans h₂)) fun w₂ h₂ => n w₂ (hr.trans h₂)
  | spawn h1 G' C' E h n => exact .spawn h1 G' C' E (fun w₂ h₂ => h w₂ (hr.trans h₂)) fun w₂ h₂ => n w₂ (hr.trans h₂)
  | recv h1 z E h n => exact .recv h1 z E (fun w₂ h₂ => h w₂ (Rel.trans hr h₂)) fun w₂ h₂ => n w₂ (Rel.trans hr h₂)
  | shut h1 z E h n => exact .shut h1 z E (fun w₂ h₂ => h w₂ (Rel.trans hr h₂)) fun w₂ h₂ => n w₂ (Rel.trans hr h₂)
/-- A step, as a walk shows it. -/
theorem Runs.go {s : Option (Nat × List Value)} {g : Goroutine} {w : World} (hr : g.status = .running)
    (h : ∀ w₁, Rel (act s) w w₁ → ∃ g' w' es, stepG P true g w₁ = .go g' w' es ∧ Own w₁ w' es ∧ Runs P Post s g' w') : Runs P Post s g w := by
  classical
  refine .step hr (fun w₁ => if h₁ : Rel (act s) w w₁ then (h w₁ h₁).choose else default) (fun w₁ => if h₁ : Rel (act s) w w₁ then (h w₁ h₁).choose_spec.choose else default)
    (fun w₁ => if h₁ : Rel (act s) w w₁ then (h w₁ h₁).choose_spec.choose_spec.choose else default) (fun w₁ h₁ => ?_) (fun w₁ h₁ => ?_)
  · simp only [h₁, dif_pos]
    have := (h w₁ h₁).choose_spec.choose_spec.choose_spec
    exact ⟨this.1, this.2.1⟩
  · simp only [h₁, dif_pos]
    exact (h w₁ h₁).choose_spec.choose_spec.choose_spec.2.2
end

/-! ### the trace -/
structure TI (w : World) (t : Trace) : Prop where
  wordless : Wordless t
  oth : ∀ op ∈ t, op.g ≠ 0 → ∀ x, op.act.touch? = some x → x.write = false ∧ x.kind = .atomic ∧ ∃ c, x.loc = .obj c ∧ IsChan w c
  own : ∀ op ∈ t, op.g = 0 → ∀ x, op.act.touch? = some x → x.write = true → ∀ c, x.loc = .obj c → c < w.heap.size ∧ ¬ IsChan w c

theorem TI.noRace {w : World} {t : Trace} (h : TI w t) (said : Bool) : ¬ Race said t := by
  rintro ⟨i, j, hij, ⟨x, y, hx, hy, hloc, _, hwr, _⟩, hn, _⟩
  obtain ⟨oi, hoi, hxi⟩ := touch_of hx
  obtain ⟨oj, hoj, hyj⟩ := touch_of hy
  have mi := mem_of_getElem? hoi
  have mj := mem_of_getElem? hoj
  by_cases gi : oi.g = 0 <;> by_cases gj : oj.g = 0
  · exact hn (hb_po hij hoi hoj (gi.trans gj.symm))
  · obtain ⟨h1, _, c, h2, h3⟩ := h.oth oj mj gj y hyj
    rcases hwr with hw | hw
    · exact (h.own oi mi gi x hxi hw c (hloc.trans h2)).2 h3
    · rw [h1] at hw; cases hw
  · obtain ⟨h1, _, c, h2, h3⟩ := h.oth oi mi gi x hxi
    rcases hwr with hw | hw
    · rw [h1] at hw; cases hw
    · exact (h.own oj mj gj y hyj hw c (hloc.symm.trans h2)).2 h3
  · obtain ⟨h1, _⟩ := h.oth oi mi gi x hxi
    obtain ⟨h2, _⟩ := h.oth oj mj gj y hyj
    rcases hwr with hw | hw
    · rw [h1] at hw; cases hw
    · rw [h2] at hw; cases hw

theorem TI.world {w w' : World} {t : Trace} (h : TI w t) (hk : ∀ k, IsChan w k → IsChan w' k) (ho : ∀ k, k < w.heap.size → ¬ IsChan w k → ¬ IsChan w' k) (hs : w.heap.size ≤ w'.heap.size) : TI w' t :=
  ⟨h.wordless, fun op hop hg x hx => by
    obtain ⟨h1, h2, c, h3, h4⟩ := h.oth op hop hg x hx
    exact ⟨h1, h2, c, h3, hk c h4⟩, fun op hop hg x hx hw c hc => by
    obtain ⟨h1, h2⟩ := h.own op hop hg x hx hw c hc
    exact ⟨by omega, ho c h1 h2⟩⟩

theorem TI.app {w : World} {t u : Trace} (h : TI w t) (hu : TI w u) : TI w (t ++ u) :=
  ⟨h.wordless.append hu.wordless, fun op hop => (Array.mem_append.1 hop).elim (h.oth op) (hu.oth op), fun op hop => (Array.mem_append.1 hop).elim (h.own op) (hu.own op)⟩

/-- Operations that touch nothing and are no marks. -/
theorem TI.still {w : World} {u : Trace} (h : ∀ op ∈ u, op.act.touch? = none ∧ ∀ m, op.act ≠ .mark m) : TI w u :=
  ⟨fun op hop m hm => absurd hm ((h op hop).2 m), fun op hop _ x hx => (by rw [(h op hop).1] at hx; cases hx), fun op hop _ x hx => (by rw [(h op hop).1] at hx; cases hx)⟩

theorem TI.step0 {w w' : World} {es : Array Event} (h : Own w w' es) (fn : FuncId) (pos : String) : TI w' (MemOp.ofEvents 0 fn pos es) := by
  rw [ofEvents_eq]
  refine ⟨fun op hop m hm => ?_, fun op hop hg => ?_, fun op hop _ x hx hw c hc => ?_⟩ <;> obtain ⟨e, he, rfl⟩ := Array.mem_map.1 hop
  · exact ofEvent_noMark (h.marks e he) m hm
  · exact absurd rfl hg
  · obtain ⟨h1, h2⟩ := ofEvent_touch (h.marks e he) hx
    exact h.objs e he c (h1 ▸ hc) (h2 ▸ hw)

/-- Every touch by another goroutine is known to goroutine 0, but for those Before 'pc'. -/
def KnownBut (t : Trace) (pc : Option Nat) : Prop := ∀ i op, t[i]? = some op → op.g ≠ 0 → op.act.touch?.isSome = true → Knows t 0 i ∨ ∃ p, pc = some p ∧ HappensBefore t i p

theorem KnownBut.app {t u : Trace} {pc : Option Nat} (h : KnownBut t pc) (hu : ∀ op ∈ u, op.g ≠ 0 → op.act.touch? = none) : KnownBut (t ++ u) pc := by
  intro i op hi hg ht
  rcases getElem?_append_cases hi with ⟨_, hi'⟩ | ⟨_, hm⟩
  · rcases h i op hi' hg ht with hk | ⟨p, hp, hb⟩
    · exact .inl (hk.app u)
    · exact .inr ⟨p, hp, hb_app u hb⟩
  · rw [hu op hm hg] at ht; cases ht

theorem KnownBut.over {t : Trace} (h : KnownBut t none) : t.HandedOver := by
  intro i g hg hne hc
  obtain ⟨x, hx, _⟩ := hc
  obtain ⟨op, hop, hox⟩ := touch_of hx
  have hgi : op.g = g := by simpa [Trace.g?, hop] using hg
  rcases h i op hop (by rw [hgi]; exact hne) (by simp [hox]) with ⟨q, z, h1, h2, h3⟩ | ⟨p, hp, _⟩
  · refine ⟨q, by simp [Trace.g?, h1, h2], ?_⟩
    rcases h3 with rfl | h3
    · rw [hop] at h1; cases h1; exact absurd (hgi.symm.trans h2) hne
    · exact h3
  · cases hp

def Ends (P : Program) (Post : Value → World → Prop) (m : Machine) (t : Trace) : Prop :=
  ∃ N last o w' t', runNT P (N + 1) m t = (.ended o w', t') ∧ runN P N m = .next last ∧ step P last = .ended o w' ∧ Conc.Good P Post last o w' t'

theorem Ends.next {P : Program} {Post : Value → World → Prop} {m m' : Machine} {t ops : Trace} (hs : stepT P m = (.next m', ops)) (h : Ends P Post m' (t ++ ops)) : Ends P Post m t := by
  obtain ⟨n, last, o, w, t', h1, h2, h3, h4⟩ := h
  exact ⟨n + 1, last, o, w, t', by rw [runNT_succ_next hs]; exact h1, by rw [runN_succ_next hs]; exact h2, h3, h4⟩

theorem Ends.done {P : Program} {Post : Value → World → Prop} {m : Machine} {o : Outcome} {w : World} {t ops : Trace} (hs : stepT P m = (.ended o w, ops)) (h : Conc.Good P Post m o w (t ++ ops)) : Ends P Post m t :=
  ⟨0, m, o, w, t ++ ops, by simp [runNT, hs], rfl, by simp [step, hs], h⟩


/-! ### the others -/
section
variable {P : Program}

theorem map_woken {gs : Array Goroutine} {g g' : Goroutine} {w' : World} {i : Nat} (h : ∀ j x, j ≠ i → gs[j]? = some x → woken P g g' w' x = x) :
    (gs.map (woken P g g' w')).setIfInBounds i g' = gs.setIfInBounds i g' := by
  apply Array.ext_getElem?
  intro j
  by_cases hj : i = j
  · subst hj
    by_cases hlt : i < gs.size
    · rw [Array.getElem?_setIfInBounds_self_of_lt (by simpa using hlt), Array.getElem?_setIfInBounds_self_of_lt hlt]
    · rw [Array.getElem?_eq_none (by simpa using hlt), Array.getElem?_eq_none (by simpa using hlt)]
  · rw [Array.getElem?_setIfInBounds_ne hj, Array.getElem?_setIfInBounds_ne hj, Array.getElem?_map]
    cases hx : gs[j]? with
    | none => rfl
    | some x => simp [h j x (fun e => hj e.symm) hx]

theorem woken_rf {g g' x : Goroutine} {w' : World} (h : x.status = .running ∨ x.status = .finished) : woken P g g' w' x = x := by
  unfold Conc.woken
  split
  · exact again_running _ h
  · rfl

/-- Where the sender stands: on its way, or waiting at the channel. -/
def SndSt (P : Program) (c : Nat) (vs : List Value) (n : Nat) (g : Goroutine) : Prop :=
  (∃ m, n = m + 1 ∧ Snd P c m vs g) ∨ (n = 0 ∧ ∃ v vs' g₂ z m, vs = v :: vs' ∧ g = parked g₂ #[scase c v z] .send ∧ Snd P c m vs' (Conc.served g₂ undef))

structure OthN (P : Program) (gs : Array Goroutine) (w : World) (t : Trace) (q : Nat → Nat) : Prop where
  ti : TI w t
  known : KnownBut t none
  quits : ∀ i g, 0 < i → gs[i]? = some g → QuitsIn P (q i) g

structure OthO (P : Program) (c : Nat) (vs : List Value) (k : Nat) (gs : Array Goroutine) (w : World) (t : Trace) (q : Nat → Nat) : Prop where
  ti : TI w t
  known : KnownBut t none
  pos : 0 < k
  chan : ∃ s r tm, w.heap[c]? = some (.chan 0 #[] false s r tm)
  quits : ∀ i g, 0 < i → i ≠ k → gs[i]? = some g → QuitsIn P (q i) g
  snd : ∃ g, gs[k]? = some g ∧ SndSt P c vs (q k) g

structure OthC (P : Program) (c : Nat) (gs : Array Goroutine) (w : World) (t : Trace) (q : Nat → Nat) : Prop where
  ti : TI w t
  chan : ∃ s r tm, w.heap[c]? = some (.chan 0 #[] true s r tm)
  quits : ∀ i g, 0 < i → gs[i]? = some g → QuitsIn P (q i) g
  closed : ∃ pc op, t[pc]? = some op ∧ op.act = .close c ∧ KnownBut t (some pc)

def Oth (P : Program) : Option (Nat × List Value) → Array Goroutine → World → Trace → (Nat → Nat) → Prop
  | none, gs, w, t, q => OthN P gs w t q
  | some (c, vs), gs, w, t, q => (∃ k, OthO P c vs k gs w t q) ∨ (vs = [] ∧ OthC P c gs w t q)

theorem SndSt.status {c : Nat} {vs : List Value} {n : Nat} {g : Goroutine} (h : SndSt P c vs n g) : g.status = .running ∨ g.status = .blocked := by
  rcases h with ⟨m, _, h⟩ | ⟨_, v, vs', g₂, z, m, _, rfl, _⟩
  · exact .inl h.running
  · exact .inr rfl

/-- All the others are awake; whatever runs beside them leaves them as they are, while the channel stands open. -/
theorem Oth.awake {s : Option (Nat × List Value)} {gs : Array Goroutine} {w : World} {t : Trace} {q : Nat → Nat} (h : Oth P s gs w t q) {i : Nat} {g : Goroutine} (hi : 0 < i) (hg : gs[i]? = some g) : awake g := by
  apply awake_of
  match s, h with
  | none, h => exact (h.quits i g hi hg).status.elim .inl fun x => .inr (.inr x)
  | some (c, vs), .inl ⟨k, h⟩ =>
    by_cases hk : i = k
    · subst hk
      obtain ⟨g', hg', hs⟩ := h.snd
      rw [hg] at hg'; cases hg'
      exact hs.status.elim .inl fun x => .inr (.inl x)
    · exact (h.quits i g hi hk hg).status.elim .inl fun x => .inr (.inr x)
  | some (c, vs), .inr ⟨_, h⟩ => exact (h.quits i g hi hg).status.elim .inl fun x => .inr (.inr x)

theorem Oth.woken {s : Option (Nat × List Value)} {gs : Array Goroutine} {w : World} {t : Trace} {q : Nat → Nat} (h : Oth P s gs w t q) {w' : World} (hc : ∀ k, IsChan w k → w'.heap[k]? = w.heap[k]?)
    {i : Nat} {x g g' : Goroutine} (hi : 0 < i) (hx : gs[i]? = some x) : woken P g g' w' x = x := by
  match s, h with
  | none, h => exact woken_rf (h.quits i x hi hx).status
  | some (c, vs), .inl ⟨k, h⟩ =>
    by_cases hk : i = k
    · subst hk
      obtain ⟨g', hg', hs⟩ := h.snd
      rw [hx] at hg'; cases hg'
      rcases hs with ⟨m, _, hs⟩ | ⟨_, v, vs', g₂, z, m, _, rfl, _⟩
      · exact woken_rf (.inl hs.running)
      · obtain ⟨s, r, tm, h'⟩ := h.chan
        exact woken_send_open _ _ (by rw [hc c ⟨_, _, _, _, _, _, h'⟩]; exact h')
    · exact woken_rf (h.quits i x hi hk hx).status
  | some (c, vs), .inr ⟨_, h⟩ => exact woken_rf (h.quits i x hi hx).status

theorem get_set0 {gs : Array Goroutine} {i : Nat} (hi : 0 < i) (x : Goroutine) : (gs.setIfInBounds 0 x)[i]? = gs[i]? := Array.getElem?_setIfInBounds_ne (by omega)

theorem ti_step0 {w w' : World} {t : Trace} {es : Array Event} (ho : Own w w' es) (fn : FuncId) (pos : String) (ht : TI w t) : TI w' (t ++ MemOp.ofEvents 0 fn pos es) :=
  (ht.world (fun k hk => (IsChan.of_eq (ho.chan k hk)).2 hk) ho.old ho.grow).app (TI.step0 ho fn pos)
theorem known_step0 {t : Trace} {pc : Option Nat} (fn : FuncId) (pos : String) (es : Array Event) (ht : KnownBut t pc) : KnownBut (t ++ MemOp.ofEvents 0 fn pos es) pc :=
  ht.app fun op hop hg => by
    obtain ⟨e, _, rfl⟩ := Conc.mem_ofEvents hop
    exact absurd rfl hg

/-- Goroutine 0 has taken a step of its own. -/
theorem OthN.step0 {gs : Array Goroutine} {w w' : World} {t : Trace} {q : Nat → Nat} {es : Array Event} (h : OthN P gs w t q) (ho : Own w w' es) (x : Goroutine) (fn : FuncId) (pos : String) :
    OthN P (gs.setIfInBounds 0 x) w' (t ++ MemOp.ofEvents 0 fn pos es) q :=
  ⟨ti_step0 ho fn pos h.ti, known_step0 fn pos es h.known, fun i g hi hg => h.quits i g hi (by rw [get_set0 hi] at hg; exact hg)⟩
theorem OthO.step0 {c k : Nat} {vs : List Value} {gs : Array Goroutine} {w w' : World} {t : Trace} {q : Nat → Nat} {es : Array Event} (h : OthO P c vs k gs w t q) (ho : Own w w' es) (x : Goroutine) (fn : FuncId) (pos : String) :
    OthO P c vs k (gs.setIfInBounds 0 x) w' (t ++ MemOp.ofEvents 0 fn pos es) q := by
  obtain ⟨s, r, tm, hc⟩ := h.chan
  obtain ⟨g, hg, hs⟩ := h.snd
  exact ⟨ti_step0 ho fn pos h.ti, known_step0 fn pos es h.known, h.pos, ⟨s, r, tm, by rw [ho.chan c ⟨_, _, _, _, _, _, hc⟩]; exact hc⟩,
    fun i g hi hik hg => h.quits i g hi hik (by rw [get_set0 hi] at hg; exact hg), ⟨g, by rw [get_set0 h.pos]; exact hg, hs⟩⟩
theorem OthC.step0 {c : Nat} {gs : Array Goroutine} {w w' : World} {t : Trace} {q : Nat → Nat} {es : Array Event} (h : OthC P c gs w t q) (ho : Own w w' es) (x : Goroutine) (fn : FuncId) (pos : String) :
    OthC P c (gs.setIfInBounds 0 x) w' (t ++ MemOp.ofEvents 0 fn pos es) q := by
  obtain ⟨s, r, tm, hc⟩ := h.chan
  obtain ⟨pc, op, h1, h2, h3⟩ := h.closed
  exact ⟨ti_step0 ho fn pos h.ti, ⟨s, r, tm, by rw [ho.chan c ⟨_, _, _, _, _, _, hc⟩]; exact hc⟩,
    fun i g hi hg => h.quits i g hi (by rw [get_set0 hi] at hg; exact hg),
    ⟨pc, op, by rw [getElem?_append_old (lt_size_of_getElem? h1)]; exact h1, h2, known_step0 fn pos es h3⟩⟩
theorem Oth.step0 {s : Option (Nat × List Value)} {gs : Array Goroutine} {w w' : World} {t : Trace} {q : Nat → Nat} {es : Array Event} (h : Oth P s gs w t q) (ho : Own w w' es) (x : Goroutine) (fn : FuncId) (pos : String) :
    Oth P s (gs.setIfInBounds 0 x) w' (t ++ MemOp.ofEvents 0 fn pos es) q := by
  match s, h with
  | none, h => exact OthN.step0 h ho x fn pos
  | some (c, vs), .inl ⟨k, h⟩ => exact .inl ⟨k, OthO.step0 h ho x fn pos⟩
  | some (c, vs), .inr ⟨e, h⟩ => exact .inr ⟨e, OthC.step0 h ho x fn pos⟩

theorem Oth.draw {s : Option (Nat × List Value)} {gs : Array Goroutine} {w : World} {t : Trace} {q : Nat → Nat} (h : Oth P s gs w t q) (d : Nat) : Oth P s gs (w.at d) t q := by
  have hw : ∀ (t : Trace), TI w t → TI (w.at d) t := fun t ht => ht.world (fun k hk => hk) (fun k _ hk => hk) (Nat.le_refl _)
  match s, h with
  | none, h => exact ⟨hw _ h.ti, h.known, h.quits⟩
  | some (c, vs), .inl ⟨k, h⟩ => exact .inl ⟨k, hw _ h.ti, h.known, h.pos, h.chan, h.quits, h.snd⟩
  | some (c, vs), .inr ⟨e, h⟩ => exact .inr ⟨e, hw _ h.ti, h.chan, h.quits, h.closed⟩


theorem sum_upd_lt {q : Nat → Nat} {i j x : Nat} (hi : i < j) (hx : x < q i) : sumTo j (upd q i x) < sumTo j q := by
  have h : sumTo j (upd q i x) + q i = sumTo j q + x := by simpa using sumTo_upd q x id hi
  omega

theorem lt_of_get {α : Type} {gs : Array α} {i : Nat} {g : α} (h : gs[i]? = some g) : i < gs.size := (Array.getElem?_eq_some_iff.1 h).1

theorem quits_upd {gs : Array Goroutine} {q : Nat → Nat} {i k n : Nat} {g' : Goroutine} (h : ∀ j x, 0 < j → j ≠ k → gs[j]? = some x → QuitsIn P (q j) x) (hi : i < gs.size) (hq : QuitsIn P n g') :
    ∀ j x, 0 < j → j ≠ k → (gs.setIfInBounds i g')[j]? = some x → QuitsIn P (upd q i n j) x := by
  intro j x hj hk hx
  by_cases hij : i = j
  · subst hij
    rw [Array.getElem?_setIfInBounds_self_of_lt hi] at hx
    cases hx
    rw [upd_same]; exact hq
  · rw [Array.getElem?_setIfInBounds_ne hij] at hx
    rw [upd_ne _ _ (fun e => hij e.symm)]
    exact h j x hj hk hx

theorem quits_set {gs : Array Goroutine} {q : Nat → Nat} {k n : Nat} {g' : Goroutine} (h : ∀ j x, 0 < j → j ≠ k → gs[j]? = some x → QuitsIn P (q j) x) :
    ∀ j x, 0 < j → j ≠ k → (gs.setIfInBounds k g')[j]? = some x → QuitsIn P (upd q k n j) x := by
  intro j x hj hk hx
  rw [Array.getElem?_setIfInBounds_ne (fun e => hk e.symm)] at hx
  rw [upd_ne _ _ hk]
  exact h j x hj hk hx

/-- A leaver slips. -/
theorem leaver_moves {gs : Array Goroutine} {w : World} {sl : Option (Nat × Nat)} {i n : Nat} {g : Goroutine} (hi : 0 < i) (hg : gs[i]? = some g) (hr : g.status = .running) (hq : QuitsIn P n g)
    (hw : ∀ j x g' , j ≠ i → gs[j]? = some x → woken P g g' w x = x) :
    ∃ n' g', n = n' + 1 ∧ QuitsIn P n' g' ∧ runT P (crowd gs w sl) i = (.next (crowd (gs.setIfInBounds i g') w sl), #[]) := by
  cases n with
  | zero => rw [show g.status = .finished from hq] at hr; cases hr
  | succ n =>
    rcases hq with hf | ⟨_, g', hst, hq'⟩
    · rw [hf] at hr; cases hr
    · have hi0 : (i == 0) = false := by simp; omega
      have := runT_crowd_go (P := P) (sl := sl) (w := w) (i := i) hg (by rw [hi0]; exact hst w)
      exact ⟨n, g', rfl, hq', by rw [this, map_woken fun j x hj hx => hw j x g' hj hx, ofEvents_none]⟩

theorem partners_none_recv {gs : Array Goroutine} {c i : Nat} (h : ∀ j x, j ≠ i → gs[j]? = some x → offersAt x c false = []) : partners (gs.setIfInBounds i ph) c false = [] :=
  partners_nil fun j x hx => by
    rcases getElem?_stand gs i j x hx with ⟨_, rfl⟩ | ⟨hj, hx⟩
    · exact offersAt_ph _ _
    · exact h j x hj hx
theorem partners_none_send {gs : Array Goroutine} {c i : Nat} (h : ∀ j x, j ≠ i → gs[j]? = some x → offersAt x c true = []) : partners (gs.setIfInBounds i ph) c true = [] :=
  partners_nil fun j x hx => by
    rcases getElem?_stand gs i j x hx with ⟨_, rfl⟩ | ⟨hj, hx⟩
    · exact offersAt_ph _ _
    · exact h j x hj hx

theorem app_nil (t : Trace) : t ++ (#[] : Array MemOp) = t := Array.append_empty

/-- Another goroutine moves while goroutine 0 is on its way. -/
theorem other_moves {s : Option (Nat × List Value)} {gs : Array Goroutine} {w : World} {t : Trace} {q : Nat → Nat} {i : Nat} {g a : Goroutine} {sl : Option (Nat × Nat)} (h : Oth P s gs w t q)
    (h0 : gs[0]? = some a) (ha : a.status = .running) (hi : 0 < i) (hg : gs[i]? = some g) (hr : g.status = .running) :
    ∃ gs' w' ops q', runT P (crowd gs w sl) i = (.next (crowd gs' w' sl), ops) ∧ gs'.size = gs.size ∧ gs'[0]? = some a ∧ Rel (act s) w w' ∧ Oth P s gs' w' (t ++ ops) q' ∧ sumTo gs.size q' < sumTo gs.size q := by
  have hlt := lt_of_get hg
  have hi0 : (i == 0) = false := by simp; omega
  have hwk : ∀ w', (∀ k, IsChan w k → w'.heap[k]? = w.heap[k]?) → ∀ j x g', j ≠ i → gs[j]? = some x → woken P g g' w' x = x := fun w' hc j x g' hj hx => by
    rcases Nat.eq_zero_or_pos j with rfl | hj0
    · rw [h0] at hx; cases hx; exact woken_rf (.inl ha)
    · exact h.woken hc hj0 hx
  have hwk0 := hwk w (fun _ _ => rfl)
  have get0 : ∀ x, (gs.setIfInBounds i x)[0]? = some a := fun x => by rw [Array.getElem?_setIfInBounds_ne (by omega)]; exact h0
  match s, h with
  | none, h =>
    obtain ⟨n, g', hn, hq, hs⟩ := leaver_moves (sl := sl) (w := w) hi hg hr (h.quits i g hi hg) hwk0
    refine ⟨_, w, _, upd q i n, hs, by simp, get0 _, Rel.refl _ _, ?_, sum_upd_lt hlt (by omega)⟩
    rw [app_nil]
    exact ⟨h.ti, h.known, fun j x hj hx => quits_upd (k := 0) (fun j x hj _ hx => h.quits j x hj hx) hlt hq j x hj (by omega) hx⟩
  | some (c, vs), .inr ⟨e, h⟩ =>
    obtain ⟨n, g', hn, hq, hs⟩ := leaver_moves (sl := sl) (w := w) hi hg hr (h.quits i g hi hg) hwk0
    refine ⟨_, w, _, upd q i n, hs, by simp, get0 _, Rel.refl _ _, ?_, sum_upd_lt hlt (by omega)⟩
    rw [app_nil]
    exact .inr ⟨e, h.ti, h.chan, fun j x hj hx => quits_upd (k := 0) (fun j x hj _ hx => h.quits j x hj hx) hlt hq j x hj (by omega) hx, h.closed⟩
  | some (c, vs), .inl ⟨k, h⟩ =>
    by_cases hik : i = k
    · subst hik
      obtain ⟨g₀, hg₀, hs⟩ := h.snd
      rw [hg] at hg₀; cases hg₀
      obtain ⟨s, r, tm, hc⟩ := h.chan
      rcases hs with ⟨m, hm, hs⟩ | ⟨_, v, vs', g₂, z, m, _, rfl, _⟩
      · cases hs with
        | @step n _ _ g' _ hst hk =>
          have hs := runT_crowd_go (P := P) (sl := sl) (w := w) (i := i) hg (by rw [hi0]; exact hst w)
          rw [map_woken fun j x hj hx => hwk0 j x g' hj hx, ofEvents_none] at hs
          refine ⟨_, w, _, upd q i (n + 1), hs, by simp, get0 _, Rel.refl _ _, ?_, sum_upd_lt hlt (by omega)⟩
          rw [app_nil]
          exact .inl ⟨i, h.ti, h.known, h.pos, h.chan, quits_set h.quits, ⟨g', by rw [Array.getElem?_setIfInBounds_self_of_lt hlt], .inl ⟨n, by rw [upd_same], hk⟩⟩⟩
        | @send _ m' v vs' _ g₂ z _ hst hk =>
          have hno : ∀ j x, j ≠ i → gs[j]? = some x → offersAt x c false = [] := fun j x hj hx => by
            rcases Nat.eq_zero_or_pos j with rfl | hj0
            · rw [h0] at hx; cases hx; exact offersAt_of_not_blocked (by rw [ha]; simp) _ _
            · exact offersAt_of_not_blocked ((h.quits j x hj0 hj hx).status.elim (fun e => by rw [e]; simp) (fun e => by rw [e]; simp)) _ _
          have hs := crowd_waits (P := P) (sl := sl) (w := w) (i := i) hg (by rw [hi0]; exact hst w) (fun cc hcc => by
            have : cc = scase c v z := by simpa using hcc
            subst this
            exact ways_send_none hc (by simp) (partners_none_recv hno))
          rw [ofEvents_none] at hs
          refine ⟨_, w, _, upd q i 0, hs, by simp, get0 _, Rel.refl _ _, ?_, sum_upd_lt hlt (by omega)⟩
          rw [app_nil]
          exact .inl ⟨i, h.ti, h.known, h.pos, h.chan, quits_set h.quits, ⟨_, by rw [Array.getElem?_setIfInBounds_self_of_lt hlt], .inr ⟨by rw [upd_same], v, vs', g₂, z, m', rfl, rfl, hk⟩⟩⟩
        | @close _ _ g₂ _ hmw hst hk =>
          have hgo := hst w s r tm hc
          have hs := runT_crowd_go (P := P) (sl := sl) (w := w) (i := i) hg (by rw [hi0]; exact hgo)
          rw [map_woken fun j x hj hx => by
            rcases Nat.eq_zero_or_pos j with rfl | hj0
            · rw [h0] at hx; cases hx; exact woken_rf (.inl ha)
            · exact woken_rf (h.quits j x hj0 hj hx).status] at hs
          have hc2 : (w.shut c s r tm).heap[c]? = some (.chan 0 #[] true s r tm) := heap_put hc
          have hchan : ∀ k, IsChan w k → IsChan (w.shut c s r tm) k := fun k hk => by
            by_cases hkc : c = k
            · subst hkc; exact ⟨_, _, _, _, _, _, hc2⟩
            · exact (IsChan.of_eq (by simp [World.shut, hkc])).2 hk
          have hold : ∀ k, k < w.heap.size → ¬ IsChan w k → ¬ IsChan (w.shut c s r tm) k := fun k _ hk => by
            by_cases hkc : c = k
            · subst hkc; exact absurd ⟨_, _, _, _, _, _, hc⟩ hk
            · exact fun h' => hk ((IsChan.of_eq (by simp [World.shut, hkc])).1 h')
          refine ⟨_, _, _, upd q i m, hs, by simp, get0 _, Rel.put c w, ?_, sum_upd_lt hlt (by omega)⟩
          refine .inr ⟨rfl, (h.ti.world hchan hold (by simp [World.shut])).app ?_, ⟨s, r, tm, hc2⟩, fun j x hj hx => ?_, ?_⟩
          · rw [ofEvents_eq]
            refine ⟨fun op hop m hm => ?_, fun op hop _ x hx => ?_, fun op hop hg0 => ?_⟩
            · simp at hop; rcases hop with rfl | rfl <;> simp [MemAct.ofEvent] at hm
            · simp at hop
              rcases hop with rfl | rfl
              · simp [MemAct.ofEvent, MemAct.touch?] at hx
                subst hx
                exact ⟨rfl, rfl, c, rfl, ⟨_, _, _, _, _, _, hc2⟩⟩
              · simp [MemAct.ofEvent, MemAct.touch?] at hx
            · simp at hop
              rcases hop with rfl | rfl <;> exact absurd hg0 (by simp; omega)
          · by_cases hij : j = i
            · subst hij
              rw [Array.getElem?_setIfInBounds_self_of_lt hlt] at hx
              cases hx
              rw [upd_same]; exact hk
            · exact quits_set h.quits j x hj hij hx
          · have e : MemOp.ofEvents i g.frame.fn g.frame.place #[⟨.obj c, false, true⟩, ⟨.obj c, true, true⟩] =
                #[{ g := i, fn := g.frame.fn, pos := g.frame.place, act := .access ⟨.obj c, false, true⟩ }, { g := i, fn := g.frame.fn, pos := g.frame.place, act := .close c }] := by
              rw [ofEvents_eq]; simp [MemAct.ofEvent]
            rw [e]
            have g1 : (t ++ #[({ g := i, fn := g.frame.fn, pos := g.frame.place, act := .access ⟨.obj c, false, true⟩ } : MemOp), { g := i, fn := g.frame.fn, pos := g.frame.place, act := .close c }])[t.size]? =
                some { g := i, fn := g.frame.fn, pos := g.frame.place, act := .access ⟨.obj c, false, true⟩ } := by simp
            have g2 : (t ++ #[({ g := i, fn := g.frame.fn, pos := g.frame.place, act := .access ⟨.obj c, false, true⟩ } : MemOp), { g := i, fn := g.frame.fn, pos := g.frame.place, act := .close c }])[t.size + 1]? =
                some { g := i, fn := g.frame.fn, pos := g.frame.place, act := .close c } := by
              rw [Array.getElem?_append_right (by omega)]; simp
            refine ⟨t.size + 1, _, g2, rfl, ?_⟩
            intro j op hj hgj ht
            rcases Nat.lt_or_ge j t.size with hjl | hjl
            · rw [getElem?_append_old hjl] at hj
              rcases h.known j op hj hgj ht with hk | ⟨p, hp, _⟩
              · exact .inl (hk.app _)
              · cases hp
            · rcases Nat.eq_or_lt_of_le hjl with hje | hje
              · subst hje
                rw [g1] at hj; cases hj
                exact .inr ⟨_, rfl, hb_po (by omega) g1 g2 rfl⟩
              · have hj1 : j = t.size + 1 := by
                  have := lt_size_of_getElem? hj
                  simp at this; omega
                subst hj1
                rw [g2] at hj; cases hj
                simp [MemAct.touch?] at ht
      · simp [parked] at hr
    · obtain ⟨n, g', hn, hq, hs⟩ := leaver_moves (sl := sl) (w := w) hi hg hr (h.quits i g hi hik hg) hwk0
      refine ⟨_, w, _, upd q i n, hs, by simp, get0 _, Rel.refl _ _, ?_, sum_upd_lt hlt (by omega)⟩
      rw [app_nil]
      obtain ⟨g₀, hg₀, hs₀⟩ := h.snd
      exact .inl ⟨k, h.ti, h.known, h.pos, h.chan, fun j x hj hjk hx => quits_upd (k := k) h.quits hlt hq j x hj hjk hx,
        ⟨g₀, by rw [Array.getElem?_setIfInBounds_ne hik]; exact hg₀, by rw [upd_ne _ _ (fun e => hik e.symm)]; exact hs₀⟩⟩


/-- Another goroutine moves while goroutine 0 waits at the open channel. -/
theorem other_moves_parked {c : Nat} {vs : List Value} {k : Nat} {gs : Array Goroutine} {w : World} {t : Trace} {q : Nat → Nat} {i : Nat} {g g₀ : Goroutine} {z₀ : Value} {sl : Option (Nat × Nat)} (h : OthO P c vs k gs w t q)
    (h0 : gs[0]? = some (parked (core g₀) #[rcase c z₀] (.recv true))) (hS : ∃ g₁ m, gs[k]? = some g₁ ∧ q k = m + 1 ∧ Snd P c m vs g₁) (hi : 0 < i) (hg : gs[i]? = some g) (hr : g.status = .running) :
    ∃ gs' w' ops q', runT P (crowd gs w sl) i = (.next (crowd gs' w' sl), ops) ∧ gs'.size = gs.size ∧ Rel (some c) w w' ∧
      ((gs'[0]? = some (parked (core g₀) #[rcase c z₀] (.recv true)) ∧ OthO P c vs k gs' w' (t ++ ops) q' ∧ (∃ g₁ m, gs'[k]? = some g₁ ∧ q' k = m + 1 ∧ Snd P c m vs g₁) ∧ sumTo gs.size q' < sumTo gs.size q) ∨
       (∃ v vs', vs = v :: vs' ∧ gs'[0]? = some (Conc.served (core g₀) (.tuple #[v, .bool true])) ∧ Oth P (some (c, vs')) gs' w' (t ++ ops) q') ∨
       (vs = [] ∧ gs'[0]? = some { parked (core g₀) #[rcase c z₀] (.recv true) with status := .running } ∧ Oth P (some (c, [])) gs' w' (t ++ ops) q' ∧ sumTo gs.size q' < sumTo gs.size q)) := by
  have hlt := lt_of_get hg
  have hlt0 := lt_of_get h0
  have hi0 : (i == 0) = false := by simp; omega
  obtain ⟨s, r, tm, hc⟩ := h.chan
  have hO : Oth P (some (c, vs)) gs w t q := .inl ⟨k, h⟩
  have hwk0 : ∀ j x g', j ≠ i → gs[j]? = some x → woken P g g' w x = x := fun j x g' hj hx => by
    rcases Nat.eq_zero_or_pos j with rfl | hj0
    · rw [h0] at hx; cases hx; exact woken_recv_open _ _ hc
    · exact hO.woken (fun _ _ => rfl) hj0 hx
  have get0 : ∀ x, (gs.setIfInBounds i x)[0]? = some (parked (core g₀) #[rcase c z₀] (.recv true)) := fun x => by rw [Array.getElem?_setIfInBounds_ne (by omega)]; exact h0
  by_cases hik : i = k
  · subst hik
    obtain ⟨g₁, m, hg₁, hm, hs⟩ := hS
    rw [hg] at hg₁; cases hg₁
    · cases hs with
      | @step n _ _ g' _ hst hk =>
        have hs := runT_crowd_go (P := P) (sl := sl) (w := w) (i := i) hg (by rw [hi0]; exact hst w)
        rw [map_woken fun j x hj hx => hwk0 j x g' hj hx, ofEvents_none] at hs
        refine ⟨_, w, _, upd q i (n + 1), hs, by simp, Rel.refl _ _, .inl ⟨get0 _, ?_, ⟨g', n, by rw [Array.getElem?_setIfInBounds_self_of_lt hlt], by rw [upd_same], hk⟩, sum_upd_lt hlt (by omega)⟩⟩
        rw [app_nil]
        exact ⟨h.ti, h.known, h.pos, h.chan, quits_set h.quits, ⟨g', by rw [Array.getElem?_setIfInBounds_self_of_lt hlt], .inl ⟨n, by rw [upd_same], hk⟩⟩⟩
      | @send _ m' v vs' _ g₂ z _ hst hk =>
        have hp : partners (gs.setIfInBounds i ph) c false = [(0, 0)] := by
          rw [partners_one (stand_get (i := i) (j := 0) (by omega) h0) fun j x hj hx => ?_, offersAt_parked_recv]
          · simp
          · rcases getElem?_stand gs i j x hx with ⟨_, rfl⟩ | ⟨hji, hx⟩
            · exact offersAt_ph _ _
            · exact offersAt_of_not_blocked ((h.quits j x (by omega) hji hx).status.elim (fun e => by rw [e]; simp) (fun e => by rw [e]; simp)) _ _
        have hs := crowd_send_meets (P := P) (sl := sl) (w := w) (i := i) (j := 0) hg (by rw [hi0]; exact hst w) hc (by omega) h0 hp
        rw [ofEvents_none, Array.empty_append, finishComm_recv, finishComm_send] at hs
        have hc2 : (w.setChan c 0 #[] false (s + 1) (r + 1) tm).heap[c]? = some (.chan 0 #[] false (s + 1) (r + 1) tm) := heap_put hc
        have hchan : ∀ k, IsChan w k → IsChan (w.setChan c 0 #[] false (s + 1) (r + 1) tm) k := fun k hk => by
          by_cases hkc : c = k
          · subst hkc; exact ⟨_, _, _, _, _, _, hc2⟩
          · exact (IsChan.of_eq (by simp [World.setChan, hkc])).2 hk
        have hold : ∀ k, k < w.heap.size → ¬ IsChan w k → ¬ IsChan (w.setChan c 0 #[] false (s + 1) (r + 1) tm) k := fun k _ hk => by
          by_cases hkc : c = k
          · subst hkc; exact absurd ⟨_, _, _, _, _, _, hc⟩ hk
          · exact fun h' => hk ((IsChan.of_eq (by simp [World.setChan, hkc])).1 h')
        refine ⟨_, _, _, upd q i (m' + 1), hs, by simp, Rel.put c w, .inr (.inl ⟨v, vs', rfl, ?_, .inl ⟨i, (h.ti.world hchan hold (by simp [World.setChan])).app (TI.still ?_), h.known.app ?_, h.pos, ⟨_, _, _, hc2⟩, ?_, ⟨_, by rw [Array.getElem?_setIfInBounds_self_of_lt (by simpa using hlt)], .inl ⟨m', by rw [upd_same], hk⟩⟩⟩⟩)⟩
        · rw [Array.getElem?_setIfInBounds_ne (by omega), Array.getElem?_setIfInBounds_self_of_lt hlt0]; rfl
        · intro op hop
          simp at hop
          rcases hop with rfl | rfl | rfl | rfl <;> simp [MemAct.touch?]
        · intro op hop _
          simp at hop
          rcases hop with rfl | rfl | rfl | rfl <;> simp [MemAct.touch?]
        · intro j x hj hji hx
          rw [Array.getElem?_setIfInBounds_ne (fun e => hji e.symm), Array.getElem?_setIfInBounds_ne (by omega)] at hx
          rw [upd_ne _ _ hji]
          exact h.quits j x hj hji hx
      | @close _ _ g₂ _ hmw hst hk =>
        have hgo := hst w s r tm hc
        have hs := runT_crowd_go (P := P) (sl := sl) (w := w) (i := i) hg (by rw [hi0]; exact hgo)
        have hc2 : (w.shut c s r tm).heap[c]? = some (.chan 0 #[] true s r tm) := heap_put hc
        have hwk : Conc.woken P g g₂ (w.shut c s r tm) (parked (core g₀) #[rcase c z₀] (.recv true)) = { parked (core g₀) #[rcase c z₀] (.recv true) with status := .running } := by
          unfold Conc.woken
          rw [if_pos (by rcases hk.status with e | e <;> simp [hmw, e])]
          exact again_recv_closed hc2
        have hget : ∀ j x, 0 < j → ((gs.map (woken P g g₂ (w.shut c s r tm))).setIfInBounds i g₂)[j]? = some x → (gs.setIfInBounds i g₂)[j]? = some x := fun j x hj hx => by
          by_cases hij : i = j
          · subst hij
            rw [Array.getElem?_setIfInBounds_self_of_lt (by simpa using hlt)] at hx
            rw [Array.getElem?_setIfInBounds_self_of_lt hlt]; exact hx
          · rw [Array.getElem?_setIfInBounds_ne hij, Array.getElem?_map] at hx
            rw [Array.getElem?_setIfInBounds_ne hij]
            cases hy : gs[j]? with
            | none => rw [hy] at hx; cases hx
            | some y =>
              rw [hy] at hx
              simp only [Option.map_some, Option.some.injEq] at hx
              rw [woken_rf (h.quits j y hj (fun e => hij e.symm) hy).status] at hx
              rw [hx]
        have hchan : ∀ k, IsChan w k → IsChan (w.shut c s r tm) k := fun k hk => by
          by_cases hkc : c = k
          · subst hkc; exact ⟨_, _, _, _, _, _, hc2⟩
          · exact (IsChan.of_eq (by simp [World.shut, hkc])).2 hk
        have hold : ∀ k, k < w.heap.size → ¬ IsChan w k → ¬ IsChan (w.shut c s r tm) k := fun k _ hk => by
          by_cases hkc : c = k
          · subst hkc; exact absurd ⟨_, _, _, _, _, _, hc⟩ hk
          · exact fun h' => hk ((IsChan.of_eq (by simp [World.shut, hkc])).1 h')
        refine ⟨_, _, _, upd q i m, hs, by simp, Rel.put c w, .inr (.inr ⟨rfl, ?_, ?_, sum_upd_lt hlt (by omega)⟩)⟩
        · rw [Array.getElem?_setIfInBounds_ne (by omega), Array.getElem?_map, h0]
          simp [hwk]
        refine .inr ⟨rfl, (h.ti.world hchan hold (by simp [World.shut])).app ?_, ⟨s, r, tm, hc2⟩, fun j x hj hx => ?_, ?_⟩
        · rw [ofEvents_eq]
          refine ⟨fun op hop m hm => ?_, fun op hop _ x hx => ?_, fun op hop hg0 => ?_⟩
          · simp at hop; rcases hop with rfl | rfl <;> simp [MemAct.ofEvent] at hm
          · simp at hop
            rcases hop with rfl | rfl
            · simp [MemAct.ofEvent, MemAct.touch?] at hx
              subst hx
              exact ⟨rfl, rfl, c, rfl, ⟨_, _, _, _, _, _, hc2⟩⟩
            · simp [MemAct.ofEvent, MemAct.touch?] at hx
          · simp at hop
            rcases hop with rfl | rfl <;> exact absurd hg0 (by simp; omega)
        · have hx := hget j x hj hx
          by_cases hij : j = i
          · subst hij
            rw [Array.getElem?_setIfInBounds_self_of_lt hlt] at hx
            cases hx
            rw [upd_same]; exact hk
          · exact quits_set h.quits j x hj hij hx
        · have e : MemOp.ofEvents i g.frame.fn g.frame.place #[⟨.obj c, false, true⟩, ⟨.obj c, true, true⟩] =
              #[{ g := i, fn := g.frame.fn, pos := g.frame.place, act := .access ⟨.obj c, false, true⟩ }, { g := i, fn := g.frame.fn, pos := g.frame.place, act := .close c }] := by
            rw [ofEvents_eq]; simp [MemAct.ofEvent]
          rw [e]
          have g1 : (t ++ #[({ g := i, fn := g.frame.fn, pos := g.frame.place, act := .access ⟨.obj c, false, true⟩ } : MemOp), { g := i, fn := g.frame.fn, pos := g.frame.place, act := .close c }])[t.size]? =
              some { g := i, fn := g.frame.fn, pos := g.frame.place, act := .access ⟨.obj c, false, true⟩ } := by simp
          have g2 : (t ++ #[({ g := i, fn := g.frame.fn, pos := g.frame.place, act := .access ⟨.obj c, false, true⟩ } : MemOp), { g := i, fn := g.frame.fn, pos := g.frame.place, act := .close c }])[t.size + 1]? =
              some { g := i, fn := g.frame.fn, pos := g.frame.place, act := .close c } := by
            rw [Array.getElem?_append_right (by omega)]; simp
          refine ⟨t.size + 1, _, g2, rfl, ?_⟩
          intro j op hj hgj ht
          rcases Nat.lt_or_ge j t.size with hjl | hjl
          · rw [getElem?_append_old hjl] at hj
            rcases h.known j op hj hgj ht with hk | ⟨p, hp, _⟩
            · exact .inl (hk.app _)
            · cases hp
          · rcases Nat.eq_or_lt_of_le hjl with hje | hje
            · subst hje
              rw [g1] at hj; cases hj
              exact .inr ⟨_, rfl, hb_po (by omega) g1 g2 rfl⟩
            · have hj1 : j = t.size + 1 := by
                have := lt_size_of_getElem? hj
                simp at this; omega
              subst hj1
              rw [g2] at hj; cases hj
              simp [MemAct.touch?] at ht
  · obtain ⟨n, g', hn, hq, hs⟩ := leaver_moves (sl := sl) (w := w) hi hg hr (h.quits i g hi hik hg) hwk0
    obtain ⟨g₂, m, hg₂, hm, hs₂⟩ := hS
    refine ⟨_, w, _, upd q i n, hs, by simp, Rel.refl _ _, .inl ⟨get0 _, ?_, ⟨g₂, m, by rw [Array.getElem?_setIfInBounds_ne hik]; exact hg₂, by rw [upd_ne _ _ (fun e => hik e.symm)]; exact hm, hs₂⟩, sum_upd_lt hlt (by omega)⟩⟩
    rw [app_nil]
    obtain ⟨g₁, hg₁, hs₁⟩ := h.snd
    exact ⟨h.ti, h.known, h.pos, h.chan, fun j x hj hjk hx => quits_upd (k := k) h.quits hlt hq j x hj hjk hx,
      ⟨g₁, by rw [Array.getElem?_setIfInBounds_ne hik]; exact hg₁, by rw [upd_ne _ _ (fun e => hik e.symm)]; exact hs₁⟩⟩

end


/-! ### the theorem of the machine -/
section
variable {P : Program} {Post : Value → World → Prop}

/-- One record as good as another for the next step. -/
structure SameG (a g : Goroutine) : Prop where
  frame : a.frame = g.frame
  callers : a.callers = g.callers
  dying : a.dying = g.dying
  running : a.status = .running

theorem SameG.step {a g : Goroutine} (h : SameG a g) (w : World) : stepG P true a w = stepG P true g w := stepG_same h.frame h.callers h.dying w
theorem SameG.refl {g : Goroutine} (h : g.status = .running) : SameG g g := ⟨rfl, rfl, rfl, h⟩

variable (P Post) in
/-- What is shown of goroutine 0's turn: of the machine m (the trace t) whose step it is. -/
def Turn (m : Machine) (t : Trace) (r : Stepped × Array MemOp) : Prop :=
  (∃ m' ops, r = (.next m', ops) ∧ Ends P Post m' (t ++ ops)) ∨ (∃ o w' ops, r = (.ended o w', ops) ∧ Conc.Good P Post m o w' (t ++ ops))

theorem Turn.ends {m : Machine} {t : Trace} {r : Stepped × Array MemOp} (hs : stepT P m = r) (h : Turn P Post m t r) : Ends P Post m t := by
  rcases h with ⟨m', ops, rfl, h⟩ | ⟨o, w', ops, rfl, h⟩
  · exact .next hs h
  · exact .done hs h

/-- The others move a bounded number of times; then it is goroutine 0's turn. -/
theorem to_turn {s : Option (Nat × List Value)} {g : Goroutine} {w : World}
    (N : Nat) (hturn : ∀ w₁ d gs a sl sl' t q, sumTo gs.size q ≤ N → Rel (act s) w w₁ → gs[0]? = some a → SameG a g → Oth P s gs w₁ t q → Turn P Post (crowd gs w₁ sl) t (runT P (crowd gs (w₁.at d) sl') 0)) :
    ∀ n w₁ gs a sl t q, n ≤ N → sumTo gs.size q = n → Rel (act s) w w₁ → gs[0]? = some a → SameG a g → Oth P s gs w₁ t q → Ends P Post (crowd gs w₁ sl) t := by
  intro n
  induction n using Nat.strongRecOn with
  | _ n ih =>
    intro w₁ gs a sl t q hN hn hr h0 hs hO
    have haw : ∀ x ∈ gs, awake x := by
      intro x hx
      obtain ⟨i, hi, rfl⟩ := Array.mem_iff_getElem.1 hx
      rcases Nat.eq_zero_or_pos i with rfl | hpos
      · have : gs[0] = a := by simpa [Array.getElem?_eq_getElem hi] using h0
        rw [this]; exact awake_of (.inl hs.running)
      · exact hO.awake hpos (Array.getElem?_eq_getElem hi)
    obtain ⟨i, x, d, sl', hi, hx, hst⟩ := crowd_pick (P := P) (w := w₁) (sl := sl) haw ⟨0, a, h0, hs.running⟩
    rcases Nat.eq_zero_or_pos i with rfl | hpos
    · exact (hturn w₁ d gs a sl sl' t q (by omega) hr h0 hs hO).ends hst
    · obtain ⟨gs', w', ops, q', h1, h2, h3, h4, h5, h6⟩ := other_moves (sl := sl') (hO.draw d) h0 hs.running hpos hi hx
      exact .next (hst.trans h1) (ih _ (by rw [← hn, h2]; exact h6) w' gs' a sl' _ q' (by rw [h2]; omega) rfl (hr.trans ((Rel.at _ _ d).trans h4)) h3 hs h5)

theorem set0_get {gs : Array Goroutine} {a : Goroutine} (h0 : gs[0]? = some a) (x : Goroutine) : (gs.setIfInBounds 0 x)[0]? = some x := Array.getElem?_setIfInBounds_self_of_lt (lt_of_get h0)

/-- Goroutine 0 waits at the channel: the others move till it is served. -/
theorem parked_ends {c : Nat} {vs : List Value} {g : Goroutine} {w : World} {z : Value}
    (hrecv : ∀ v vs' w₁ gs sl t q, vs = v :: vs' → Rel (some c) w w₁ → gs[0]? = some (Conc.served (core g) (.tuple #[v, .bool true])) → Oth P (some (c, vs')) gs w₁ t q → Ends P Post (crowd gs w₁ sl) t)
    (N : Nat) (hwoken : ∀ w₁ gs sl t q, vs = [] → sumTo gs.size q < N → Rel (some c) w w₁ → gs[0]? = some { parked (core g) #[rcase c z] (.recv true) with status := .running } → Oth P (some (c, [])) gs w₁ t q → Ends P Post (crowd gs w₁ sl) t) :
    ∀ n w₁ gs sl t q k, n ≤ N → sumTo gs.size q = n → Rel (some c) w w₁ → gs[0]? = some (parked (core g) #[rcase c z] (.recv true)) → OthO P c vs k gs w₁ t q → (∃ g₁ m, gs[k]? = some g₁ ∧ q k = m + 1 ∧ Snd P c m vs g₁) → Ends P Post (crowd gs w₁ sl) t := by
  intro n
  induction n using Nat.strongRecOn with
  | _ n ih =>
    intro w₁ gs sl t q k hN hn hr h0 hO hS
    have hO' : Oth P (some (c, vs)) gs w₁ t q := .inl ⟨k, hO⟩
    have haw : ∀ x ∈ gs, awake x := by
      intro x hx
      obtain ⟨i, hi, rfl⟩ := Array.mem_iff_getElem.1 hx
      rcases Nat.eq_zero_or_pos i with rfl | hpos
      · have : gs[0] = parked (core g) #[rcase c z] (.recv true) := by simpa [Array.getElem?_eq_getElem hi] using h0
        rw [this]; exact awake_of (.inr (.inl rfl))
      · exact hO'.awake hpos (Array.getElem?_eq_getElem hi)
    obtain ⟨g₁, m, hg₁, hm, hs⟩ := hS
    obtain ⟨i, x, d, sl', hi, hx, hst⟩ := crowd_pick (P := P) (w := w₁) (sl := sl) haw ⟨k, g₁, hg₁, hs.running⟩
    rcases Nat.eq_zero_or_pos i with rfl | hpos
    · rw [h0] at hi; cases hi; simp [parked] at hx
    · have hOd : OthO P c vs k gs (w₁.at d) t q :=
        ⟨hO.ti.world (fun k hk => hk) (fun k _ hk => hk) (Nat.le_refl _), hO.known, hO.pos, hO.chan, hO.quits, hO.snd⟩
      obtain ⟨gs', w', ops, q', h1, h2, h4, h5⟩ := other_moves_parked (sl := sl') hOd h0 ⟨g₁, m, hg₁, hm, hs⟩ hpos hi hx
      have hr' : Rel (some c) w w' := hr.trans ((Rel.at _ _ d).trans h4)
      rcases h5 with ⟨h3, h5, h7, h6⟩ | ⟨v, vs', e, h3, h5⟩ | ⟨e, h3, h5, h6⟩
      · exact .next (hst.trans h1) (ih _ (by rw [← hn, h2]; exact h6) w' gs' sl' _ q' k (by rw [h2]; omega) rfl hr' h3 h5 h7)
      · exact .next (hst.trans h1) (hrecv v vs' w' gs' sl' _ q' e hr' h3 h5)
      · exact .next (hst.trans h1) (hwoken w' gs' sl' _ q' e (by rw [h2]; omega) hr' h3 h5)

/-- Goroutine 0's turn at a receive. -/
theorem recv_turn {c : Nat} {vs : List Value} {g : Goroutine} {w : World} {z : Value} {E : World → Array Event}
    (h : ∀ w₁, Rel (some c) w w₁ → stepG P true g w₁ = .comm (core g) #[rcase c z] true (.recv true) w₁ (E w₁) ∧ Own w₁ w₁ (E w₁))
    (hrecv : ∀ v vs' w₁ gs sl t q, vs = v :: vs' → Rel (some c) w w₁ → gs[0]? = some (Conc.served (core g) (.tuple #[v, .bool true])) → Oth P (some (c, vs')) gs w₁ t q → Ends P Post (crowd gs w₁ sl) t)
    (hshut : ∀ w₁ gs sl t q, vs = [] → Rel (some c) w w₁ → gs[0]? = some (Conc.served (core g) (.tuple #[z, .bool false])) → Oth P none gs w₁ t q → Ends P Post (crowd gs w₁ sl) t)
    (N : Nat) (hwoken : ∀ w₁ gs sl t q, vs = [] → sumTo gs.size q < N → Rel (some c) w w₁ → gs[0]? = some { parked (core g) #[rcase c z] (.recv true) with status := .running } → Oth P (some (c, [])) gs w₁ t q → Ends P Post (crowd gs w₁ sl) t) :
    ∀ w₁ d gs a sl sl' t q, sumTo gs.size q ≤ N → Rel (some c) w w₁ → gs[0]? = some a → SameG a g → Oth P (some (c, vs)) gs w₁ t q → Turn P Post (crowd gs w₁ sl) t (runT P (crowd gs (w₁.at d) sl') 0) := by
  intro w₁ d gs a sl sl' t q hN hr h0 hs hO
  have hr' : Rel (some c) w (w₁.at d) := hr.trans (Rel.at _ _ d)
  obtain ⟨hcomm, hown⟩ := h _ hr'
  have hcomm' : stepG P (0 == 0) a (w₁.at d) = .comm (core g) #[rcase c z] true (.recv true) (w₁.at d) (E (w₁.at d)) := by rw [← hcomm]; exact hs.step _
  have hOd := hO.draw d
  rcases hOd with ⟨k, hO⟩ | ⟨e, hO⟩
  · obtain ⟨s, r, tm, hc⟩ := hO.chan
    obtain ⟨g₁, hg₁, hsnd⟩ := hO.snd
    have hno : ∀ j x, j ≠ 0 → j ≠ k → gs[j]? = some x → offersAt x c true = [] := fun j x hj hjk hx =>
      offersAt_of_not_blocked ((hO.quits j x (by omega) hjk hx).status.elim (fun e => by rw [e]; simp) (fun e => by rw [e]; simp)) _ _
    rcases hsnd with ⟨m, hm, hsnd⟩ | ⟨hm, v, vs', g₂, zz, m, rfl, rfl, hsnd⟩
    · -- the sender is on its way: it waits
      have hstep := crowd_waits (P := P) (sl := sl') (w := w₁.at d) (i := 0) h0 hcomm' (fun cc hcc => by
        have : cc = rcase c z := by simpa using hcc
        subst this
        exact ways_recv_none hc (partners_none_send fun j x hj hx => by
          by_cases hjk : j = k
          · subst hjk
            rw [hg₁] at hx; cases hx
            exact offersAt_of_not_blocked (by rw [hsnd.running]; simp) _ _
          · exact hno j x hj hjk hx))
      refine .inl ⟨_, _, hstep, ?_⟩
      exact parked_ends hrecv N hwoken _ _ _ _ _ _ k (by simpa using hN) rfl hr' (set0_get h0 _) (hO.step0 hown _ _ _) ⟨g₁, m, by rw [get_set0 hO.pos]; exact hg₁, hm, hsnd⟩
    · -- the sender waits: both are served
      have hlt := lt_of_get hg₁
      have hp : partners (gs.setIfInBounds 0 ph) c true = [(k, 0)] := by
        rw [partners_one (stand_get (i := 0) (j := k) (by have := hO.pos; omega) hg₁) fun j x hj hx => ?_, offersAt_parked_send]
        · simp
        · rcases getElem?_stand gs 0 j x hx with ⟨_, rfl⟩ | ⟨hji, hx⟩
          · exact offersAt_ph _ _
          · exact hno j x hji hj hx
      have hstep := crowd_recv_meets (P := P) (sl := sl') (w := w₁.at d) (i := 0) (j := k) h0 hcomm' hc (by have := hO.pos; omega) hg₁ hp
      rw [finishComm_recv, finishComm_send] at hstep
      have hc2 : ((w₁.at d).setChan c 0 #[] false (s + 1) (r + 1) tm).heap[c]? = some (.chan 0 #[] false (s + 1) (r + 1) tm) := heap_put hc
      have hchan : ∀ k, IsChan (w₁.at d) k → IsChan ((w₁.at d).setChan c 0 #[] false (s + 1) (r + 1) tm) k := fun k hk => by
        by_cases hkc : c = k
        · subst hkc; exact ⟨_, _, _, _, _, _, hc2⟩
        · exact (IsChan.of_eq (by simp [World.setChan, hkc])).2 hk
      have hold : ∀ k, k < (w₁.at d).heap.size → ¬ IsChan (w₁.at d) k → ¬ IsChan ((w₁.at d).setChan c 0 #[] false (s + 1) (r + 1) tm) k := fun k _ hk => by
        by_cases hkc : c = k
        · subst hkc; exact absurd ⟨_, _, _, _, _, _, hc⟩ hk
        · exact fun h' => hk ((IsChan.of_eq (by simp [World.setChan, hkc])).1 h')
      have hO1 := hO.step0 hown (Conc.served (core g) (recvd true v true)) a.frame.fn a.frame.place
      refine .inl ⟨_, _, hstep, ?_⟩
      rw [← Array.append_assoc]
      refine hrecv v vs' _ _ _ _ (upd q k (m + 1)) rfl (hr'.trans (Rel.put c _)) ?_ (.inl ⟨k, (hO1.ti.world hchan hold (by simp [World.setChan])).app (TI.still ?_), hO1.known.app ?_, hO.pos, ⟨_, _, _, hc2⟩, ?_, ⟨_, ?_, .inl ⟨m, by rw [upd_same], hsnd⟩⟩⟩)
      · rw [Array.getElem?_setIfInBounds_self_of_lt (by simpa using lt_of_get h0)]; rfl
      · intro op hop
        simp at hop
        rcases hop with rfl | rfl | rfl | rfl <;> simp [MemAct.touch?]
      · intro op hop _
        simp at hop
        rcases hop with rfl | rfl | rfl | rfl <;> simp [MemAct.touch?]
      · intro j x hj hjk hx
        rw [Array.getElem?_setIfInBounds_ne (by omega), Array.getElem?_setIfInBounds_ne (fun e => hjk e.symm)] at hx
        rw [upd_ne _ _ hjk]
        exact hO.quits j x hj hjk hx
      · rw [Array.getElem?_setIfInBounds_ne (by have := hO.pos; omega), Array.getElem?_setIfInBounds_self_of_lt hlt]
  · -- it finds the channel closed
    obtain ⟨s, r, tm, hc⟩ := hO.chan
    have hp : partners (gs.setIfInBounds 0 ph) c true = [] := partners_none_send fun j x hj hx =>
      offersAt_of_not_blocked ((hO.quits j x (by omega) hx).status.elim (fun e => by rw [e]; simp) (fun e => by rw [e]; simp)) _ _
    have hstep := crowd_recv_closed (P := P) (sl := sl') (w := w₁.at d) (i := 0) h0 hcomm' hc hp
    rw [finishComm_recv] at hstep
    have hO1 := hO.step0 hown (Conc.served (core g) (recvd true z false)) a.frame.fn a.frame.place
    refine .inl ⟨_, _, hstep, ?_⟩
    rw [← Array.append_assoc]
    refine hshut _ _ _ _ q e hr' (set0_get h0 _) ⟨hO1.ti.app (TI.still ?_), ?_, hO1.quits⟩
    · intro op hop
      simp at hop
      subst hop
      simp [MemAct.touch?]
    · obtain ⟨pc, op, h1, h2, h3⟩ := hO1.closed
      generalize hT : t ++ MemOp.ofEvents 0 a.frame.fn a.frame.place (E (w₁.at d)) = T at *
      generalize hy : ({ g := 0, fn := (core g).frame.fn, pos := (core g).frame.place, act := .recvClosed c } : MemOp) = y
      have y1 : y.g = 0 := by rw [← hy]
      have y2 : y.act = .recvClosed c := by rw [← hy]
      have hlast : (T ++ #[y])[T.size]? = some y := by rw [Array.getElem?_append_right (Nat.le_refl _)]; simp
      have hwl : Wordless (T ++ #[y]) := hO1.ti.wordless.append fun o ho m hm => by
        have : o = y := by simpa using ho
        rw [this, y2] at hm; cases hm
      have hpc : (T ++ #[y])[pc]? = some op := by rw [getElem?_append_old (lt_size_of_getElem? h1)]; exact h1
      have hb : HappensBefore (T ++ #[y]) pc T.size := .single (.inr ⟨.closed (c := c) (by rw [act?_of hpc, h2]) (by rw [act?_of hlast, y2]), hwl.heard hpc, hwl.heard hlast⟩)
      intro j o hj hgj ht
      rcases getElem?_append_cases hj with ⟨_, hj'⟩ | ⟨_, hm⟩
      · rcases h3 j o hj' hgj ht with hk | ⟨p, hp, hb'⟩
        · exact .inl (hk.app _)
        · cases hp
          exact .inl ⟨T.size, y, hlast, y1, .inr ((hb_app _ hb').trans hb)⟩
      · have : o = y := by simpa using hm
        rw [this] at hgj
        exact absurd y1 hgj

/-- ████ THE THEOREM: whoever is picked, now and later, the run ends, and its end is good. -/
theorem runs_ends {s : Option (Nat × List Value)} {g : Goroutine} {w : World} (h : Runs P Post s g w) :
    ∀ w₁ gs a sl t q, Rel (act s) w w₁ → gs[0]? = some a → SameG a g → Oth P s gs w₁ t q → Ends P Post (crowd gs w₁ sl) t := by
  induction h with
  | @fin g w hr h =>
    intro w₁ gs a sl t q hrel h0 hs hO
    refine to_turn (s := none) (g := g) (w := w) _ (fun w₁ d gs a sl sl' t q _ hrel h0 hs hO => ?_) _ w₁ gs a sl t q (Nat.le_refl _) rfl hrel h0 hs hO
    obtain ⟨v, es, hend, hown, hpost⟩ := h _ (hrel.trans (Rel.at _ _ d))
    have hrunT := runT_many_ended (P := P) (sl := sl') (w := w₁.at d) (i := 0) h0 (show stepG P (0 == 0) a (w₁.at d) = _ from (hs.step _).trans hend)
    have hO1 : OthN P (gs.setIfInBounds 0 a) (w₁.at d) (t ++ MemOp.ofEvents 0 a.frame.fn a.frame.place es) q := (hO.draw d).step0 hown a _ _
    refine .inr ⟨_, _, _, hrunT, v, rfl, hpost, fun said => hO1.ti.noRace said, hO1.known.over, ⟨fun x hx => ?_, rfl⟩, fun j x hx hj => ?_⟩
    · obtain ⟨j, hj⟩ := List.mem_iff_getElem?.1 hx
      rw [List.getElem?_drop] at hj
      exact ⟨_, (hO.quits (1 + j) x (by omega) (by simpa [crowd] using hj)).leaves⟩
    · have hq := hO.quits j x (by omega) hx
      refine ⟨q j, ?_⟩
      rw [hO1.ti.wordless.deaf]
      exact hq.hears _ 0
  | @step s g w hr G' W' E h n ih =>
    intro w₁ gs a sl t q hrel h0 hs hO
    refine to_turn _ (fun w₁ d gs a sl sl' t q _ hrel h0 hs hO => ?_) _ w₁ gs a sl t q (Nat.le_refl _) rfl hrel h0 hs hO
    have hrel' := hrel.trans (Rel.at _ _ d)
    obtain ⟨hgo, hown⟩ := h _ hrel'
    have hrunT := runT_crowd_go (P := P) (sl := sl') (w := w₁.at d) (i := 0) h0 (show stepG P (0 == 0) a (w₁.at d) = _ from (hs.step _).trans hgo)
    rw [map_woken fun j x hj hx => (hO.draw d).woken hown.chan (by omega) hx] at hrunT
    exact .inl ⟨_, _, hrunT, ih _ hrel' _ _ _ _ _ q (Rel.refl _ _) (set0_get h0 _) (SameG.refl (n _ hrel').running) ((hO.draw d).step0 hown _ _ _)⟩
  | @spawn c vs g w hr G' C' E h n ih =>
    intro w₁ gs a sl t q hrel h0 hs hO
    refine to_turn (s := none) (g := g) (w := w) _ (fun w₁ d gs a sl sl' t q _ hrel h0 hs hO => ?_) _ w₁ gs a sl t q (Nat.le_refl _) rfl hrel h0 hs hO
    have hrel' := hrel.trans (Rel.at _ _ d)
    obtain ⟨hgo, hown, hrun, ⟨m, hsnd⟩, hc⟩ := h _ hrel'
    have hrunT := runT_crowd_spawn (P := P) (sl := sl') (w := w₁.at d) (i := 0) h0 (show stepG P (0 == 0) a (w₁.at d) = _ from (hs.step _).trans hgo)
    refine .inl ⟨_, _, hrunT, ?_⟩
    have hO1 : OthN P (gs.setIfInBounds 0 (G' (w₁.at d))) (w₁.at d) (t ++ MemOp.ofEvents 0 a.frame.fn a.frame.place (E (w₁.at d))) q := (hO.draw d).step0 hown _ _ _
    have hlt := lt_of_get h0
    have htr : ∀ x y : MemOp, t ++ ((MemOp.ofEvents 0 a.frame.fn a.frame.place (E (w₁.at d))).push x).push y = (t ++ MemOp.ofEvents 0 a.frame.fn a.frame.place (E (w₁.at d))) ++ #[x, y] := fun x y => by
      apply Array.ext'; simp
    rw [htr]
    have hsz : (gs.setIfInBounds 0 (G' (w₁.at d))).size = gs.size := by simp
    refine ih _ hrel' _ _ _ _ _ (upd q gs.size (m + 1)) (Rel.refl _ _) ?_ (SameG.refl hrun) (.inl ⟨gs.size, hO1.ti.app (TI.still ?_), hO1.known.app ?_, hlt, hc, ?_, ⟨_, ?_, .inl ⟨m, by rw [upd_same], hsnd⟩⟩⟩)
    · rw [Array.getElem?_push_lt (by rw [hsz]; exact hlt)]
      simp
    · intro op hop
      simp at hop
      rcases hop with rfl | rfl <;> simp [MemAct.touch?]
    · intro op hop _
      simp at hop
      rcases hop with rfl | rfl <;> simp [MemAct.touch?]
    · intro j x hj hjk hx
      rw [Array.getElem?_push, if_neg (by rw [hsz]; exact hjk)] at hx
      rw [upd_ne _ _ hjk]
      exact hO1.quits j x hj hx
    · rw [Array.getElem?_push, if_pos hsz.symm]
  | @recv c v vs g w hr z E h n ih =>
    intro w₁ gs a sl t q hrel h0 hs hO
    refine to_turn _ (recv_turn h (fun v' vs' w₁ gs sl t q e hrel h0 hO => ?_) (fun _ _ _ _ _ e => by cases e) _ (fun _ _ _ _ _ e => by cases e)) _ w₁ gs a sl t q (Nat.le_refl _) rfl hrel h0 hs hO
    cases e
    exact ih _ hrel _ _ _ _ _ q (Rel.refl _ _) h0 (SameG.refl rfl) hO
  | @shut c g w hr z E h n ih =>
    intro w₁ gs a sl t q hrel h0 hs hO
    -- by the number of steps that the others have left
    have key : ∀ N w₁ gs a sl t q, sumTo gs.size q ≤ N → Rel (some c) w w₁ → gs[0]? = some a → SameG a g → Oth P (some (c, [])) gs w₁ t q → Ends P Post (crowd gs w₁ sl) t := by
      intro N
      induction N using Nat.strongRecOn with
      | _ N ihN =>
        intro w₁ gs a sl t q hN hrel h0 hs hO
        refine to_turn (s := some (c, [])) N (recv_turn (vs := []) h (fun _ _ _ _ _ _ _ e => by cases e) (fun w₁ gs sl t q _ hrel h0 hO => ih _ hrel _ _ _ _ _ q (Rel.refl _ _) h0 (SameG.refl rfl) hO) N
          (fun w₁ gs sl t q _ hlt hrel h0 hO => ihN _ hlt w₁ gs _ sl t q (Nat.le_refl _) hrel h0 ⟨rfl, rfl, rfl, rfl⟩ hO)) _ w₁ gs a sl t q hN rfl hrel h0 hs hO
    exact key _ w₁ gs a sl t q (Nat.le_refl _) hrel h0 hs hO

theorem runs_ends_solo {g : Goroutine} {w : World} (h : Runs P Post none g w) : Ends P Post (solo g w) #[] := by
  rw [solo_eq_crowd]
  exact runs_ends h w #[g] g none #[] (fun _ => 0) (Rel.refl _ _) rfl (SameG.refl h.running)
    ⟨⟨fun op hop => by simp at hop, fun op hop => by simp at hop, fun op hop => by simp at hop⟩, fun i op hi => by simp at hi, fun i x hi hx => by
      have : i < 1 := by simpa using (Array.getElem?_eq_some_iff.1 hx).1
      omega⟩

end

end
end Go.Cx

/-
  THE ABSTRACT STATE: values and a heap whose block numbers are the interpreter's own; how they stand for the model's ('VR', 'HS').
-/
namespace Go.Cx
noncomputable section
open Go Go.Conc

/-! ### a tree of cells, by number -/
inductive T (α : Type) where
  | nil
  | node (v : Option α) (l r : T α)
  deriving Inhabited

def bitsOf : Nat → Nat → List Bool
  | 0, _ => []
  | f + 1, n => if n = 0 then [] else (n % 2 == 1) :: bitsOf f (n / 2)
def key (n : Nat) : List Bool := bitsOf n n
def unbits : List Bool → Nat
  | [] => 0
  | b :: l => (if b then 1 else 0) + 2 * unbits l
theorem unbits_bitsOf : ∀ f n, n ≤ f → unbits (bitsOf f n) = n := by
  intro f
  induction f with
  | zero => intro n h; simp [bitsOf, unbits]; omega
  | succ f ih =>
    intro n h
    by_cases hn : n = 0
    · simp [bitsOf, hn, unbits]
    · simp only [bitsOf, hn, if_false, unbits]
      rw [ih (n / 2) (by omega)]
      by_cases h2 : n % 2 = 1 <;> simp [h2] <;> omega
theorem key_inj {a b : Nat} (h : key a = key b) : a = b := by
  have h1 := unbits_bitsOf a a (Nat.le_refl _)
  have h2 := unbits_bitsOf b b (Nat.le_refl _)
  unfold key at h
  rw [h] at h1
  omega

namespace T
variable {α : Type}
def getK : T α → List Bool → Option α
  | nil, _ => none
  | node v _ _, [] => v
  | node _ l r, b :: k => if b then r.getK k else l.getK k
def setK : T α → List Bool → Option α → T α
  | nil, [], x => node x nil nil
  | nil, b :: k, x => if b then node none nil (setK nil k x) else node none (setK nil k x) nil
  | node _ l r, [], x => node x l r
  | node v l r, b :: k, x => if b then node v l (r.setK k x) else node v (l.setK k x) r
theorem getK_setK (k : List Bool) : ∀ (t : T α) (k' : List Bool) (x : Option α), (t.setK k x).getK k' = if k = k' then x else t.getK k' := by
  induction k with
  | nil =>
    intro t k' x
    cases t <;> cases k' <;> simp [setK, getK]
  | cons b k ih =>
    intro t k' x
    cases t with
    | nil =>
      cases k' with
      | nil => cases b <;> simp [setK, getK]
      | cons b' k' =>
        cases b <;> cases b' <;> simp [setK, getK, ih]
    | node v l r =>
      cases k' with
      | nil => cases b <;> simp [setK, getK]
      | cons b' k' =>
        cases b <;> cases b' <;> simp [setK, getK, ih]
def getI : T α → Nat → Option α
  | nil, _ => none
  | node v l r, n => if n = 0 then v else if n % 2 = 1 then r.getI (n / 2) else l.getI (n / 2)
/-- What stands at a number. -/
def get (t : T α) : Nat → Option α :=
  T.rec (motive := fun _ => Nat → Option α) (fun _ => none) (fun v _ _ L R n => Bool.rec (Bool.rec (L (Nat.div n 2)) (R (Nat.div n 2)) (Nat.beq (Nat.land n 1) 1)) v (Nat.beq n 0)) t
def singleI : Nat → Nat → α → T α
  | 0, _, x => node (some x) nil nil
  | f + 1, n, x => if n = 0 then node (some x) nil nil else if n % 2 = 1 then node none nil (singleI f (n / 2) x) else node none (singleI f (n / 2) x) nil
def single (f : Nat) : Nat → α → T α :=
  Nat.rec (motive := fun _ => Nat → α → T α) (fun _ x => node (some x) nil nil) (fun _ I n x => Bool.rec (Bool.rec (node none (I (Nat.div n 2) x) nil) (node none nil (I (Nat.div n 2) x)) (Nat.beq (Nat.land n 1) 1)) (node (some x) nil nil) (Nat.beq n 0)) f
def mk1I (v : Option α) (r t : T α) : T α := node v t r
/-- A node, its left side looked at first. -/
def mk1 (v : Option α) (r t : T α) : T α := T.rec (motive := fun _ => T α) (node v nil r) (fun a b c _ _ => node v (node a b c) r) t
def mk2I (v : Option α) (l t : T α) : T α := node v l t
def mk2 (v : Option α) (l t : T α) : T α := T.rec (motive := fun _ => T α) (node v l nil) (fun a b c _ _ => node v l (node a b c)) t
def setI : T α → Nat → α → T α
  | nil, n, x => singleI n n x
  | node v l r, n, x => if n = 0 then node (some x) l r else if n % 2 = 1 then node v l (r.setI (n / 2) x) else node v (l.setI (n / 2) x) r
def set (t : T α) : Nat → α → T α :=
  T.rec (motive := fun _ => Nat → α → T α) (fun n x => single n n x) (fun v l r L R n x => Bool.rec (Bool.rec (mk1 v r (L (Nat.div n 2) x)) (mk2 v l (R (Nat.div n 2) x)) (Nat.beq (Nat.land n 1) 1)) (node (some x) l r) (Nat.beq n 0)) t

theorem mk1_eq (v : Option α) (r t : T α) : mk1 v r t = node v t r := by cases t <;> rfl
theorem mk2_eq (v : Option α) (l t : T α) : mk2 v l t = node v l t := by cases t <;> rfl
theorem bitsOf_fuel : ∀ f g m, m ≤ f → m ≤ g → bitsOf f m = bitsOf g m := by
  intro f
  induction f with
  | zero =>
    intro g m h _
    have : m = 0 := by omega
    subst this
    cases g <;> simp [bitsOf]
  | succ f ih =>
    intro g m h hg
    cases g with
    | zero => have : m = 0 := by omega
              subst this; simp [bitsOf]
    | succ g =>
      by_cases e : m = 0
      · simp [bitsOf, e]
      · simp only [bitsOf, e, if_false]
        rw [ih g (m / 2) (by omega) (by omega)]
theorem key_zero : key 0 = [] := rfl
theorem key_pos {n : Nat} (h : n ≠ 0) : key n = (n % 2 == 1) :: key (n / 2) := by
  unfold key
  cases n with
  | zero => exact absurd rfl h
  | succ n =>
    rw [bitsOf]
    simp only [Nat.succ_ne_zero, if_false]
    rw [bitsOf_fuel n ((n + 1) / 2) _ (by omega) (by omega)]
theorem low_bit (n : Nat) : Nat.beq (Nat.land n 1) 1 = (n % 2 == 1) := by
  have : Nat.land n 1 = n % 2 := Nat.and_one_is_mod n
  rw [this]
  rcases Nat.mod_two_eq_zero_or_one n with h | h <;> rw [h] <;> rfl
theorem rec_bool {β : Type} (b : Bool) (x y : β) : (Bool.rec x y b : β) = if b then y else x := by cases b <;> rfl
theorem get_eq (t : T α) : ∀ n, t.get n = t.getK (key n) := by
  induction t with
  | nil => intro n; cases key n <;> rfl
  | node v l r ihl ihr =>
    intro n
    show (Bool.rec (Bool.rec (l.get (Nat.div n 2)) (r.get (Nat.div n 2)) (Nat.beq (Nat.land n 1) 1)) v (Nat.beq n 0) : Option α) = _
    by_cases h : n = 0
    · subst h; rfl
    · have h0 : Nat.beq n 0 = false := by cases n with | zero => exact absurd rfl h | succ n => rfl
      rw [key_pos h, h0, low_bit, rec_bool]
      show (if (n % 2 == 1) = true then r.get (n / 2) else l.get (n / 2)) = _
      rw [ihl, ihr]
      rfl
theorem single_eq : ∀ (f n : Nat) (x : α), n ≤ f → single f n x = (nil : T α).setK (key n) (some x) := by
  intro f
  induction f with
  | zero => intro n x h; have : n = 0 := by omega
            subst this; rfl
  | succ f ih =>
    intro n x h
    show (Bool.rec (Bool.rec (node none (single f (Nat.div n 2) x) nil) (node none nil (single f (Nat.div n 2) x)) (Nat.beq (Nat.land n 1) 1)) (node (some x) nil nil) (Nat.beq n 0) : T α) = _
    by_cases e : n = 0
    · subst e; rfl
    · have h0 : Nat.beq n 0 = false := by cases n with | zero => exact absurd rfl e | succ n => rfl
      rw [key_pos e, h0, low_bit, rec_bool]
      show (if (n % 2 == 1) = true then node none nil (single f (n / 2) x) else node none (single f (n / 2) x) nil) = _
      rw [ih (n / 2) x (by omega)]
      rfl
theorem set_eq (t : T α) : ∀ n x, t.set n x = t.setK (key n) (some x) := by
  induction t with
  | nil => intro n x; exact single_eq n n x (Nat.le_refl _)
  | node v l r ihl ihr =>
    intro n x
    show (Bool.rec (Bool.rec (mk1 v r (l.set (Nat.div n 2) x)) (mk2 v l (r.set (Nat.div n 2) x)) (Nat.beq (Nat.land n 1) 1)) (node (some x) l r) (Nat.beq n 0) : T α) = _
    by_cases h : n = 0
    · subst h; rfl
    · have h0 : Nat.beq n 0 = false := by cases n with | zero => exact absurd rfl h | succ n => rfl
      rw [key_pos h, h0, low_bit, rec_bool, mk1_eq, mk2_eq]
      show (if (n % 2 == 1) = true then node v l (r.set (n / 2) x) else node v (l.set (n / 2) x) r) = _
      rw [ihl, ihr]
      rfl
theorem get_set (t : T α) (n m : Nat) (x : α) : (t.set n x).get m = if n = m then some x else t.get m := by
  rw [get_eq, get_eq, set_eq, getK_setK]
  by_cases h : n = m
  · simp [h]
  · have : key n ≠ key m := fun e => h (key_inj e)
    simp [h, this]
@[simp] theorem get_nil (n : Nat) : (T.nil : T α).get n = none := rfl
/-- Put a row from a place on. -/
def puts (t : T α) (o : Nat) : List α → T α
  | [] => t
  | x :: l => (t.set o x).puts (o + 1) l
theorem get_puts (l : List α) : ∀ (t : T α) (o m : Nat), (t.puts o l).get m = if o ≤ m ∧ m < o + l.length then l[m - o]? else t.get m := by
  induction l with
  | nil => intro t o m; simp [puts]; intro h1 h2; omega
  | cons x l ih =>
    intro t o m
    rw [puts, ih, get_set]
    by_cases h : o = m
    · subst h; simp; intro h1; omega
    · by_cases h1 : o + 1 ≤ m ∧ m < o + 1 + l.length
      · have h2 : o ≤ m ∧ m < o + (x :: l).length := by simp; omega
        rw [if_pos h1, if_pos h2]
        have : m - o = (m - (o + 1)) + 1 := by omega
        rw [this, List.getElem?_cons_succ]
      · have h2 : ¬ (o ≤ m ∧ m < o + (x :: l).length) := by simp; omega
        rw [if_neg h1, if_neg h2, if_neg h]
def ofList (l : List α) : T α := T.nil.puts 0 l
theorem get_ofList (l : List α) (m : Nat) : (ofList l).get m = l[m]? := by
  unfold ofList
  rw [get_puts]
  by_cases h : m < l.length
  · simp [h]
  · simp [h]
/-- Take a row; none, if something is not there. -/
def gets (t : T α) (o : Nat) : Nat → Option (List α)
  | 0 => some []
  | n + 1 => match t.get o with
    | none => none
    | some x => (t.gets (o + 1) n).map (x :: ·)
theorem gets_some {t : T α} : ∀ {n o : Nat} {l : List α}, t.gets o n = some l → l.length = n ∧ ∀ i, i < n → t.get (o + i) = l[i]? := by
  intro n
  induction n with
  | zero => intro o l h; simp [gets] at h; subst h; simp
  | succ n ih =>
    intro o l h
    simp only [gets] at h
    cases hx : t.get o with
    | none => simp [hx] at h
    | some x =>
      simp only [hx] at h
      cases hl : t.gets (o + 1) n with
      | none => simp [hl] at h
      | some l' =>
        simp only [hl, Option.map_some, Option.some.injEq] at h
        subst h
        obtain ⟨h1, h2⟩ := ih hl
        refine ⟨by simp [h1], fun i hi => ?_⟩
        cases i with
        | zero => simp [hx]
        | succ i =>
          have := h2 i (by omega)
          rw [List.getElem?_cons_succ, ← this]
          congr 1
          omega
end T

/-! ### values -/
inductive AV where
  | int (k : IntKind) (n : Int)
  | bool (b : Bool)
  | str (l : List UInt8)
  | ptr (p : Option (Nat × Nat))
  | slice (p : Option (Nat × Nat)) (len cap : Nat) (op : Bool)
  | map (r : Option Nat)
  | chan (r : Option Nat)
  | func (fn : Fn) (first captured : List AV)
  | nilFunc
  | iface (t : TypeId) (v : AV)
  | nilIface
  | agg (l : List AV)
  | tuple (l : List AV)
  | raw (a : Addr)
  deriving Inhabited

def AV.scalar : AV → Bool
  | .agg _ | .tuple _ => false
  | _ => true
def AV.cells : AV → List AV
  | .agg l => l
  | v => [v]

/-- Where a block of the interpreter's stands. -/
inductive Slot where
  | hole
  | dead
  | at (c sh : Nat)
  deriving DecidableEq

structure Env where
  blk : Nat → Slot
  ex : Nat → Nat

mutual
/-- What an abstract value stands for. -/
inductive VR (env : Env) : AV → Value → Prop
  | int (k : IntKind) (n : Int) : VR env (.int k n) (.int k n)
  | bool (b : Bool) : VR env (.bool b) (.bool b)
  | str (l : List UInt8) : VR env (.str l) (.string ⟨l.toArray⟩)
  | ptrN : VR env (.ptr none) (.pointer none)
  | ptr {b o c sh : Nat} (h : env.blk b = .at c sh) : VR env (.ptr (some (b, o))) (.pointer (some ⟨c, sh + o, none⟩))
  | ptrD {b o : Nat} (h : env.blk b = .dead) (a : Addr) : VR env (.ptr (some (b, o))) (.pointer (some a))
  | slN (op : Bool) : VR env (.slice none 0 0 op) (.slice none 0 0)
  | sl {b o len cap c sh e : Nat} {op : Bool} {a : Addr} (h : env.blk b = .at c sh) (he : e = if op then env.ex b else 0) (ha : cap + e = 0 ∨ a = ⟨c, sh + o, none⟩) (hl : len ≤ cap) :
      VR env (.slice (some (b, o)) len cap op) (.slice (some a) len (cap + e))
  | slD {b o len cap : Nat} {op : Bool} (h : env.blk b = .dead) (a : Addr) (cap' : Nat) (hl : len ≤ cap) (hc : cap ≤ cap') : VR env (.slice (some (b, o)) len cap op) (.slice (some a) len cap')
  | mapN : VR env (.map none) (.map none)
  | map {b c : Nat} (h : env.blk b = .at c 0) : VR env (.map (some b)) (.map (some c))
  | mapD {b : Nat} (h : env.blk b = .dead) (c : Nat) : VR env (.map (some b)) (.map (some c))
  | chanN : VR env (.chan none) (.chan none)
  | chan {b c : Nat} (h : env.blk b = .at c 0) : VR env (.chan (some b)) (.chan (some c))
  | chanD {b : Nat} (h : env.blk b = .dead) (c : Nat) : VR env (.chan (some b)) (.chan (some c))
  | func {fn : Fn} {f cap : List AV} {F C : List Value} (hf : VRs env f F) (hc : VRs env cap C) : VR env (.func fn f cap) (.func fn F.toArray C.toArray)
  | nilFunc : VR env .nilFunc .nilFunc
  | iface {t : TypeId} {v : AV} {V : Value} (h : VR env v V) : VR env (.iface t v) (.iface t V)
  | nilIface : VR env .nilIface .nilIface
  | agg {l : List AV} {L : List Value} (h : VRs env l L) (hs : l.all AV.scalar = true) : VR env (.agg l) (.agg L.toArray)
  | tuple {l : List AV} {L : List Value} (h : VRs env l L) : VR env (.tuple l) (.tuple L.toArray)
  | raw (a : Addr) : VR env (.raw a) (.pointer (some a))
inductive VRs (env : Env) : List AV → List Value → Prop
  | nil : VRs env [] []
  | cons {v : AV} {V : Value} {l : List AV} {L : List Value} (h : VR env v V) (hl : VRs env l L) : VRs env (v :: l) (V :: L)
end

/-- A later environment: what stands somewhere stands there still, or is dead. -/
structure Env.le (e e' : Env) : Prop where
  at_ : ∀ b c sh, e.blk b = .at c sh → (e'.blk b = .at c sh ∧ e'.ex b = e.ex b) ∨ e'.blk b = .dead
  dead : ∀ b, e.blk b = .dead → e'.blk b = .dead
theorem Env.le_refl (e : Env) : e.le e := ⟨fun _ _ _ h => .inl ⟨h, rfl⟩, fun _ h => h⟩
theorem Env.le_trans {a b c : Env} (h : a.le b) (h' : b.le c) : a.le c :=
  ⟨fun i x sh hi => by
    rcases h.at_ i x sh hi with ⟨h1, h2⟩ | h1
    · rcases h'.at_ i x sh h1 with ⟨h3, h4⟩ | h3
      · exact .inl ⟨h3, h4.trans h2⟩
      · exact .inr h3
    · exact .inr (h'.dead i h1), fun i hi => h'.dead i (h.dead i hi)⟩

theorem Env.le.hole_at {e e' : Env} (h : e.le e') {b c sh : Nat} (hb : e.blk b = .at c sh) : e'.blk b ≠ .hole := by
  rcases h.at_ b c sh hb with ⟨h1, _⟩ | h1 <;> rw [h1] <;> simp

mutual
theorem VR.mono {e e' : Env} (hle : e.le e') : ∀ {v : AV} {V : Value}, VR e v V → VR e' v V
  | _, _, .int k n => .int k n
  | _, _, .bool b => .bool b
  | _, _, .str l => .str l
  | _, _, .ptrN => .ptrN
  | _, _, .ptr h => by
    rcases hle.at_ _ _ _ h with ⟨h1, _⟩ | h1
    · exact .ptr h1
    · exact .ptrD h1 _
  | _, _, .ptrD h a => .ptrD (hle.dead _ h) a
  | _, _, .slN op => .slN op
  | _, _, .sl h he ha hl => by
    rcases hle.at_ _ _ _ h with ⟨h1, h2⟩ | h1
    · exact .sl h1 (by rw [h2]; exact he) ha hl
    · exact .slD h1 _ _ hl (by omega)
  | _, _, .slD h a cap' hl hc => .slD (hle.dead _ h) a cap' hl hc
  | _, _, .mapN => .mapN
  | _, _, .map h => by
    rcases hle.at_ _ _ _ h with ⟨h1, _⟩ | h1
    · exact .map h1
    · exact .mapD h1 _
  | _, _, .mapD h c => .mapD (hle.dead _ h) c
  | _, _, .chanN => .chanN
  | _, _, .chan h => by
    rcases hle.at_ _ _ _ h with ⟨h1, _⟩ | h1
    · exact .chan h1
    · exact .chanD h1 _
  | _, _, .chanD h c => .chanD (hle.dead _ h) c
  | _, _, .func hf hc => .func (hf.mono hle) (hc.mono hle)
  | _, _, .nilFunc => .nilFunc
  | _, _, .iface h => .iface (h.mono hle)
  | _, _, .nilIface => .nilIface
  | _, _, .agg h hs => .agg (h.mono hle) hs
  | _, _, .tuple h => .tuple (h.mono hle)
  | _, _, .raw a => .raw a
theorem VRs.mono {e e' : Env} (hle : e.le e') : ∀ {l : List AV} {L : List Value}, VRs e l L → VRs e' l L
  | _, _, .nil => .nil
  | _, _, .cons h hl => .cons (h.mono hle) (hl.mono hle)
end

theorem VRs.length {e : Env} {l : List AV} {L : List Value} (h : VRs e l L) : l.length = L.length := by
  induction l generalizing L with
  | nil => cases h; rfl
  | cons v l ih => cases h with | cons h hl => simp [ih hl]
theorem VRs.get {e : Env} {l : List AV} {L : List Value} (h : VRs e l L) {i : Nat} {v : AV} (hv : l[i]? = some v) : ∃ V, L[i]? = some V ∧ VR e v V := by
  induction l generalizing L i with
  | nil => simp at hv
  | cons x l ih =>
    cases h with
    | cons h hl =>
      cases i with
      | zero => simp at hv; subst hv; exact ⟨_, rfl, h⟩
      | succ i => simp at hv; simpa using ih hl hv
theorem VRs.of_get {e : Env} {l : List AV} {L : List Value} (hl : l.length = L.length) (h : ∀ (i : Nat) (v : AV) (V : Value), l[i]? = some v → L[i]? = some V → VR e v V) : VRs e l L := by
  induction l generalizing L with
  | nil => cases L <;> simp at hl; exact .nil
  | cons x l ih =>
    cases L with
    | nil => simp at hl
    | cons X L => exact .cons (h 0 x X rfl rfl) (ih (by simpa using hl) fun i v V hv hV => h (i + 1) v V (by simpa using hv) (by simpa using hV))
theorem VRs.append {e : Env} {l m : List AV} {L M : List Value} (h : VRs e l L) (h' : VRs e m M) : VRs e (l ++ m) (L ++ M) := by
  induction l generalizing L with
  | nil => cases h; exact h'
  | cons v l ih => cases h with | cons h hl => exact .cons h (ih hl)
theorem VR.scalar {e : Env} {v : AV} {V : Value} (h : VR e v V) : v.scalar = V.oneCell' := by
  cases h <;> first | rfl | (rename_i h; exact h.symm)
theorem VR.cells {e : Env} {v : AV} {V : Value} (h : VR e v V) : VRs e v.cells V.cells.toList := by
  cases h <;> first
    | (rename_i h hs; simpa [AV.cells, Value.cells] using h)
    | (refine .cons ?_ .nil; constructor <;> assumption)
    | exact .cons (.ptrD ‹_› _) .nil
    | exact .cons (.slD ‹_› _ _ ‹_› ‹_›) .nil
    | exact .cons (.mapD ‹_› _) .nil
    | exact .cons (.chanD ‹_› _) .nil
    | exact .cons (.raw _) .nil

/-! ### the heap -/
inductive ABlk where
  | cells (elem : TypeId) (n : Nat) (c : T AV) (op ro : Bool)
  | map (es : List (AV × AV × Nat)) (clock : Nat)
  | siter (s : List UInt8) (pos : Nat)
  | chan (st : Nat)       -- 0: open, nobody has used it; 1: a sender serves it; 2: past
  | dead
  deriving Inhabited

structure AH where
  n : Nat
  t : T ABlk
  deriving Inhabited

/-- Which numbers of a block's cells are closed to writing. -/
def Unfrozen (fr : Nat × Nat) (n : Nat) : Prop := ∀ i, i < n → ¬ (fr.1 ≤ i ∧ i < fr.2)

/-- How a block of the interpreter's stands in the world. B: whatever lies below was there at the beginning. -/
def BR (P : Program) (B : Nat) (env : Env) (w : World) (b c sh : Nat) : ABlk → Prop
  | .cells elem n cs op ro => ∃ arr elem' fr, w.heap[c]? = some (.cells arr elem' fr) ∧ (∀ i, i < n → ∃ v V, cs.get i = some v ∧ v.scalar = true ∧ arr[sh + i]? = some V ∧ VR env v V) ∧
      (ro = false → B ≤ c ∧ Unfrozen fr arr.size ∧ elem' = elem) ∧
      (∃ i, P.info? elem = some i ∧ sh + n + (if op then env.ex b else 0) * i.size ≤ arr.size) ∧ (op = false → env.ex b = 0)
  | .map es clock => B ≤ c ∧ sh = 0 ∧ ∃ ES, w.heap[c]? = some (.map ES clock) ∧ ES.size = es.length ∧ ∀ (i : Nat) (k v : AV) (bn : Nat), es[i]? = some (k, v, bn) → ∃ E : MapEntry, ES[i]? = some E ∧ VR env k E.key ∧ VR env v E.val ∧ E.born = bn
  | .siter s pos => B ≤ c ∧ sh = 0 ∧ w.heap[c]? = some (.stringIter ⟨s.toArray⟩ pos)
  | .chan st => B ≤ c ∧ sh = 0 ∧ IsChan w c ∧ (st = 0 → ∃ s r tm, w.heap[c]? = some (.chan 0 #[] false s r tm))
  | .dead => False

/-- What the state of the sender stands for. -/
def SR (env : Env) (h : AH) : Option (Nat × List AV) → Option (Nat × List Value) → Prop
  | none, none => True
  | some (b, vs), some (c, Vs) => env.blk b = .at c 0 ∧ VRs env vs Vs ∧ h.t.get b = some (.chan 1)
  | _, _ => False

/-- The world as the interpreter has it. w₀: the world at the beginning. -/
structure HS (P : Program) (B : Nat) (w₀ : World) (K : List Nat) (env : Env) (h : AH) (s : Option (Nat × List AV)) (S : Option (Nat × List Value)) (w : World) : Prop where
  tape : w.tape = w₀.tape
  os : w.os = w₀.os
  output : w.output = w₀.output
  size : w₀.heap.size ≤ w.heap.size
  base : ∀ c, c < B → w.heap[c]? = w₀.heap[c]?
  bound : B ≤ w₀.heap.size
  gb : P.globals.size ≤ B
  inj : ∀ b b' c sh sh', B ≤ c → env.blk b = .at c sh → env.blk b' = .at c sh' → b = b'
  unal : ∀ b, h.t.get b = Option.none → env.blk b = .hole
  next : ∀ b, h.n ≤ b → h.t.get b = Option.none
  rel : ∀ b blk c sh, h.t.get b = some blk → env.blk b = .at c sh → BR P B env w b c sh blk
  dead : ∀ b, env.blk b = .dead → h.t.get b = some .dead
  glob : ∀ g, g < P.globals.size → env.blk g = .at g 0
  snd : SR env h s S
  actv : ∀ b, h.t.get b = some (.chan 1) → ∃ vs, s = some (b, vs)
  hol : ∀ b, b ∈ K → env.blk b = .hole ∧ b < h.n

section
variable {P : Program} {B : Nat} {w₀ : World} {K : List Nat} {env : Env} {h : AH} {s : Option (Nat × List AV)} {S : Option (Nat × List Value)} {w : World}

theorem BR.mono {env' : Env} (hle : env.le env') {b c sh : Nat} {blk : ABlk} (he : env'.ex b = env.ex b) (hb : BR P B env w b c sh blk) : BR P B env' w b c sh blk := by
  cases blk with
  | cells elem n cs op ro =>
    obtain ⟨arr, elem', fr, h1, h2, h3, h4, h5⟩ := hb
    refine ⟨arr, elem', fr, h1, fun i hi => ?_, h3, ?_, ?_⟩
    · obtain ⟨v, V, a, b, c, d⟩ := h2 i hi
      exact ⟨v, V, a, b, c, d.mono hle⟩
    · rw [he]; exact h4
    · rw [he]; exact h5
  | map es clock =>
    obtain ⟨h0, h00, ES, h1, h2, h3⟩ := hb
    refine ⟨h0, h00, ES, h1, h2, fun i k v bn hi => ?_⟩
    obtain ⟨E, a, b, c, d⟩ := h3 i k v bn hi
    exact ⟨E, a, b.mono hle, c.mono hle, d⟩
  | siter s pos => exact hb
  | chan st => exact hb
  | dead => exact hb

/-- A block is the same where its place in the world is. -/
theorem BR.world {w' : World} {b c sh : Nat} {blk : ABlk} (he : w'.heap[c]? = w.heap[c]?) (hb : BR P B env w b c sh blk) : BR P B env w' b c sh blk := by
  cases blk <;> simp only [BR, IsChan, he] at * <;> exact hb

theorem BR.lt {b c sh : Nat} {blk : ABlk} (hb : BR P B env w b c sh blk) : c < w.heap.size := by
  have key : ∀ o : Obj, w.heap[c]? = some o → c < w.heap.size := fun o ho => (Array.getElem?_eq_some_iff.1 ho).1
  cases blk with
  | cells elem n cs op ro => obtain ⟨arr, elem', fr, h1, _⟩ := hb; exact key _ h1
  | map es clock => obtain ⟨_, _, ES, h1, _⟩ := hb; exact key _ h1
  | siter s pos => exact key _ hb.2.2
  | chan st => exact hb.2.2.1.lt
  | dead => exact hb.elim

theorem HS.rely {w₁ : World} (hs : HS P B w₀ K env h s S w) (hr : Rel (act S) w w₁) : HS P B w₀ K env h s S w₁ := by
  have hact : ∀ c, act S = some c → ∃ b, env.blk b = .at c 0 ∧ h.t.get b = some (.chan 1) ∧ BR P B env w b c 0 (.chan 1) := by
    intro c hc
    have hsnd := hs.snd
    cases S with
    | none => cases hc
    | some x =>
      obtain ⟨c', Vs⟩ := x
      cases hc
      cases s with
      | none => exact hsnd.elim
      | some y =>
        obtain ⟨b, vs⟩ := y
        exact ⟨b, hsnd.1, hsnd.2.2, hs.rel _ _ _ _ hsnd.2.2 hsnd.1⟩
  refine ⟨hr.tape.trans hs.tape, hr.os.trans hs.os, hr.output.trans hs.output, by rw [hr.size]; exact hs.size, fun c hc => ?_, hs.bound, hs.gb, hs.inj, hs.unal, hs.next, fun b blk c sh hb hat => ?_, hs.dead, hs.glob, hs.snd, hs.actv, hs.hol⟩
  · rw [hr.block c ?_]
    · exact hs.base c hc
    · intro e
      obtain ⟨b, _, _, hB, _⟩ := hact c e
      omega
  · by_cases e : act S = some c
    · obtain ⟨b', hb', hg', h1, h2, h3, h4⟩ := hact c e
      have : b = b' := hs.inj _ _ _ _ _ h1 hat hb'
      subst this
      rw [hg'] at hb
      cases hb
      rw [hat] at hb'
      cases hb'
      exact ⟨h1, rfl, hr.chan _ h3, fun x => by cases x⟩
    · exact (hs.rel b blk c sh hb hat).world (hr.block c e)


/-- The world differs at this place alone. -/
structure At1 (c : Nat) (w w' : World) : Prop where
  tape : w'.tape = w.tape
  os : w'.os = w.os
  output : w'.output = w.output
  size : w'.heap.size = w.heap.size
  other : ∀ k, k ≠ c → w'.heap[k]? = w.heap[k]?

theorem HS.put {w' : World} {b c sh : Nat} {blk blk' : ABlk} (hs : HS P B w₀ K env h s S w) (hb : h.t.get b = some blk) (hat : env.blk b = .at c sh) (hB : B ≤ c) (h1 : At1 c w w')
    (hnc : ∀ st, blk ≠ .chan st) (hnc' : ∀ st, blk' ≠ .chan st) (hnew : BR P B env w' b c sh blk') :
    HS P B w₀ K env { h with t := h.t.set b blk' } s S w' := by
  refine ⟨h1.tape.trans hs.tape, h1.os.trans hs.os, h1.output.trans hs.output, by rw [h1.size]; exact hs.size, fun k hk => ?_, hs.bound, hs.gb, hs.inj, fun k hk => ?_, fun k hk => ?_, fun k bk c' sh' hk hat' => ?_, fun k hk => ?_, hs.glob, ?_, fun k hk => ?_, hs.hol⟩
  · rw [h1.other k (by omega)]; exact hs.base k hk
  · simp only [T.get_set] at hk
    by_cases e : b = k
    · simp [e] at hk
    · simp only [e, if_false] at hk; exact hs.unal k hk
  · simp only [T.get_set]
    by_cases e : b = k
    · subst e; have := hs.next b hk; rw [hb] at this; cases this
    · simp only [e, if_false]; exact hs.next k hk
  · simp only [T.get_set] at hk
    by_cases e : b = k
    · subst e
      simp only [if_true, Option.some.injEq] at hk
      subst hk
      rw [hat] at hat'; cases hat'
      exact hnew
    · simp only [e, if_false] at hk
      have hne : c' ≠ c := fun e' => by subst e'; exact e (hs.inj _ _ _ _ _ hB hat hat')
      exact (hs.rel k bk c' sh' hk hat').world (h1.other c' hne)
  · simp only [T.get_set]
    by_cases e : b = k
    · subst e; rw [hat] at hk; cases hk
    · simp only [e, if_false]; exact hs.dead k hk
  · have hsnd := hs.snd
    cases s <;> cases S <;> first | exact trivial | exact hsnd.elim | skip
    rename_i x y
    obtain ⟨b1, vs⟩ := x
    obtain ⟨c1, Vs⟩ := y
    refine ⟨hsnd.1, hsnd.2.1, ?_⟩
    simp only [T.get_set]
    by_cases e : b = b1
    · subst e; have := hsnd.2.2; rw [hb] at this; exact absurd (Option.some.inj this) (hnc 1)
    · simp only [e, if_false]; exact hsnd.2.2
  · simp only [T.get_set] at hk
    by_cases e : b = k
    · subst e; simp only [if_true, Option.some.injEq] at hk; exact absurd hk (hnc' 1)
    · simp only [e, if_false] at hk; exact hs.actv k hk

theorem Own.of_put {w' : World} {c : Nat} {es : Array Event} (h1 : At1 c w w') (hc : ¬ IsChan w c) (hc' : ¬ IsChan w' c) (hm : ∀ e ∈ es, ∀ m, e.loc = .mark m → Neutral m)
    (ho : ∀ e ∈ es, ∀ k, e.loc = .obj k → e.write = true → k < w'.heap.size ∧ ¬ IsChan w' k) : Own w w' es :=
  ⟨fun k hk => h1.other k (fun e => hc (e ▸ hk)), fun k _ hk => by
    by_cases e : k = c
    · subst e; exact hc'
    · exact fun h' => hk ((IsChan.of_eq (h1.other k e)).1 h'), by rw [h1.size]; exact Nat.le_refl _, hm, ho⟩

/-- An operation that turns nothing but the count of draws. -/
theorem Own.of_same {w' : World} {es : Array Event} (h1 : w'.heap = w.heap) (hm : ∀ e ∈ es, ∀ m, e.loc = .mark m → Neutral m)
    (ho : ∀ e ∈ es, ∀ k, e.loc = .obj k → e.write = false) : Own w w' es :=
  ⟨fun k _ => by rw [h1], fun k _ hk => by rw [IsChan, h1]; exact hk, by rw [h1]; exact Nat.le_refl _, hm, fun e he k hk hw => by rw [ho e he k hk] at hw; cases hw⟩

/-- A block more, of the interpreter's alone. -/
def AH.push (h : AH) (blk : ABlk) : AH := { n := h.n + 1, t := h.t.set h.n blk }

theorem HS.apush {blk : ABlk} (hs : HS P B w₀ K env h s S w) (hc : blk ≠ .chan 1) : HS P B w₀ K env (h.push blk) s S w := by
  have hn : h.t.get h.n = Option.none := hs.next _ (Nat.le_refl _)
  have hne : ∀ k, h.t.get k ≠ Option.none → h.n ≠ k := fun k hk e => hk (e ▸ hn)
  refine ⟨hs.tape, hs.os, hs.output, hs.size, hs.base, hs.bound, hs.gb, hs.inj, fun k hk => ?_, fun k hk => ?_, fun k bk c' sh' hk hat' => ?_, fun k hk => ?_, hs.glob, ?_, fun k hk => ?_, fun k hk => ⟨(hs.hol k hk).1, Nat.lt_succ_of_lt (hs.hol k hk).2⟩⟩
  · simp only [AH.push, T.get_set] at hk
    by_cases e : h.n = k
    · simp [e] at hk
    · simp only [e, if_false] at hk; exact hs.unal k hk
  · simp only [AH.push] at hk
    simp only [AH.push, T.get_set]
    rw [if_neg (by omega)]
    exact hs.next k (by omega)
  · simp only [AH.push, T.get_set] at hk
    by_cases e : h.n = k
    · subst e
      rw [hs.unal _ hn] at hat'; cases hat'
    · simp only [e, if_false] at hk; exact hs.rel k bk c' sh' hk hat'
  · have := hs.dead k hk
    simp only [AH.push, T.get_set]
    rw [if_neg (hne k (by rw [this]; simp))]; exact this
  · have hsnd := hs.snd
    cases s <;> cases S <;> first | exact trivial | exact hsnd.elim | skip
    refine ⟨hsnd.1, hsnd.2.1, ?_⟩
    have := hsnd.2.2
    simp only [AH.push, T.get_set]
    rw [if_neg (hne _ (by rw [this]; simp))]; exact this
  · simp only [AH.push, T.get_set] at hk
    by_cases e : h.n = k
    · subst e; simp only [if_true, Option.some.injEq] at hk; exact absurd hk hc
    · simp only [e, if_false] at hk; exact hs.actv k hk

/-- The environment with a hole filled. -/
def Env.fill (env : Env) (b c sh ex : Nat) : Env := { blk := fun k => if k = b then .at c sh else env.blk k, ex := fun k => if k = b then ex else env.ex k }
theorem Env.le_fill {b c sh ex : Nat} (hb : env.blk b = .hole) : env.le (env.fill b c sh ex) := by
  refine ⟨fun k c' sh' hk => .inl ?_, fun k hk => ?_⟩ <;> simp only [Env.fill] <;> by_cases e : k = b
  · subst e; rw [hb] at hk; cases hk
  · simp [e, hk]
  · subst e; rw [hb] at hk; cases hk
  · simp [e, hk]

/-- The world with a block more. -/
structure New1 (o : Obj) (w w' : World) : Prop where
  tape : w'.tape = w.tape
  os : w'.os = w.os
  output : w'.output = w.output
  heap : w'.heap = w.heap.push o

theorem New1.get {o : Obj} {w' : World} (hn : New1 o w w') (k : Nat) (hk : k < w.heap.size) : w'.heap[k]? = w.heap[k]? := by
  rw [hn.heap, Array.getElem?_push, if_neg (by omega)]
theorem New1.new {o : Obj} {w' : World} (hn : New1 o w w') : w'.heap[w.heap.size]? = some o := by rw [hn.heap, Array.getElem?_push, if_pos rfl]

/-- A hole is filled by a new block. -/
theorem HS.fill {w' : World} {o : Obj} {b ex : Nat} {blk : ABlk} (hs : HS P B w₀ K env h s S w) (hb : h.t.get b = some blk) (hat : env.blk b = .hole) (hbK : b ∉ K) (hn : New1 o w w')
    (hnew : BR P B (env.fill b w.heap.size 0 ex) w' b w.heap.size 0 blk) : HS P B w₀ K (env.fill b w.heap.size 0 ex) h s S w' := by
  have hle := Env.le_fill (c := w.heap.size) (sh := 0) (ex := ex) hat
  have hlt : ∀ k c sh, env.blk k = .at c sh → c < w.heap.size := fun k c sh hk => by
    cases hg : h.t.get k with
    | none => rw [hs.unal k hg] at hk; cases hk
    | some bk => exact (hs.rel k bk c sh hg hk).lt
  have hsz : w'.heap.size = w.heap.size + 1 := by rw [hn.heap]; simp
  refine ⟨hn.tape.trans hs.tape, hn.os.trans hs.os, hn.output.trans hs.output, by have := hs.size; omega, fun k hk => ?_, hs.bound, hs.gb, fun k k' c sh sh' hBc hk hk' => ?_, fun k hk => ?_, hs.next, fun k bk c' sh' hk hat' => ?_, fun k hk => ?_, fun g hg => ?_, ?_, hs.actv, fun k hk => ?_⟩
  · rw [hn.get k (by have := hs.size; have := hs.bound; omega)]; exact hs.base k hk
  · simp only [Env.fill] at hk hk'
    by_cases e : k = b <;> by_cases e' : k' = b
    · rw [e, e']
    · simp only [e, e', if_true, if_false, Slot.at.injEq] at hk hk'
      have := hlt _ _ _ hk'; omega
    · simp only [e, e', if_true, if_false, Slot.at.injEq] at hk hk'
      have := hlt _ _ _ hk; omega
    · simp only [e, e', if_false] at hk hk'
      exact hs.inj _ _ _ _ _ hBc hk hk'
  · have : k ≠ b := fun e => by subst e; rw [hb] at hk; cases hk
    simp only [Env.fill, this, if_false]; exact hs.unal k hk
  · by_cases e : k = b
    · subst e
      simp only [Env.fill, if_true, Slot.at.injEq] at hat'
      obtain ⟨rfl, rfl⟩ := hat'
      rw [hb] at hk; cases hk
      exact hnew
    · have hat2 : env.blk k = .at c' sh' := by simpa only [Env.fill, e, if_false] using hat'
      exact ((hs.rel k bk c' sh' hk hat2).mono hle (by simp [Env.fill, e])).world (hn.get c' (hlt _ _ _ hat2))
  · by_cases e : k = b
    · subst e; simp [Env.fill] at hk
    · simp only [Env.fill, e, if_false] at hk; exact hs.dead k hk
  · have h1 := hs.glob g hg
    have : g ≠ b := fun e => by subst e; rw [hat] at h1; cases h1
    simp only [Env.fill, this, if_false]; exact h1
  · have hsnd := hs.snd
    cases s <;> cases S <;> first | exact trivial | exact hsnd.elim | skip
    refine ⟨?_, hsnd.2.1.mono hle, hsnd.2.2⟩
    rcases hle.at_ _ _ _ hsnd.1 with ⟨h1, _⟩ | h1
    · exact h1
    · have h2 := hsnd.1
      simp only [Env.fill] at h1
      split at h1
      · cases h1
      · rw [h2] at h1; cases h1
  · have : k ≠ b := fun e => hbK (e ▸ hk)
    simp only [Env.fill, this, if_false]; exact hs.hol k hk

theorem Own.of_new {w' : World} {o : Obj} {es : Array Event} (hn : New1 o w w') (hm : ∀ e ∈ es, ∀ m, e.loc = .mark m → Neutral m)
    (ho : ∀ e ∈ es, ∀ k, e.loc = .obj k → e.write = false) : Own w w' es :=
  ⟨fun k hk => hn.get k hk.lt, fun k hk hnk => by rw [IsChan.of_eq (hn.get k hk)]; exact hnk, by rw [hn.heap]; simp, hm, fun e he k hk hw => by rw [ho e he k hk] at hw; cases hw⟩

end

end
end Go.Cx

/-
  THE ABSTRACT OPERATIONS: what the interpreter does at each operation ('aop').
-/
namespace Go.Cx
noncomputable section
open Go Go.Conc

/-! ### constants -/
def absS : Value → Option AV
  | .int k n => some (.int k n)
  | .bool b => some (.bool b)
  | .string s => some (.str s.data.toList)
  | .pointer none => some (.ptr none)
  | .slice none 0 0 => some (.slice none 0 0 false)
  | .map none => some (.map none)
  | .chan none => some (.chan none)
  | .nilFunc => some .nilFunc
  | .nilIface => some .nilIface
  | _ => none
def absL : List Value → Option (List AV)
  | [] => some []
  | v :: l => match absS v, absL l with
    | some a, some m => some (a :: m)
    | _, _ => none
def absV : Value → Option AV
  | .agg cs => (absL cs.toList).map .agg
  | .tuple cs => if cs.toList.isEmpty then some (.tuple []) else none
  | v => absS v

/-! ### types -/
def aSize (P : Program) (t : TypeId) : Option Nat := (P.info? t).map (·.size)
def aBytes (P : Program) (t : TypeId) : Option Nat := (P.info? t).map (·.bytes)
def aZero (P : Program) (t : TypeId) : Option AV := match P.info? t with
  | some i => match i.zero with
    | some z => absV z
    | none => none
  | none => none
def aIsAgg (P : Program) (t : TypeId) : Bool := match P.underlying t with
  | some (.struct _) | some (.array _ _) => true
  | _ => false
def aKnown (P : Program) (t : TypeId) : Bool := (P.underlying t).isSome

/-- A part of an aggregate. -/
def aPart (P : Program) (t : TypeId) (l : List AV) (off : Nat) : Option AV :=
  if aIsAgg P t then match aSize P t with
    | some n => if off + n ≤ l.length then some (.agg ((l.drop off).take n)) else none
    | none => none
  else if aKnown P t then l[off]? else none

/-! ### the heap -/
def aLoad (P : Program) (h : AH) (t : TypeId) (b o : Nat) : Option AV :=
  match h.t.get b with
  | some (.cells _ n c _ _) =>
    if aIsAgg P t then match aSize P t with
      | some m => if o + m ≤ n then (c.gets o m).map .agg else none
      | none => none
    else if aKnown P t && decide (o < n) then c.get o else none
  | _ => none
def aCellsAt (h : AH) (b o m : Nat) : Option (List AV) :=
  match h.t.get b with
  | some (.cells _ n c _ _) => if o + m ≤ n then c.gets o m else none
  | _ => none
def aPut (h : AH) (b o : Nat) (l : List AV) : Option AH :=
  match h.t.get b with
  | some (.cells e n c op false) => if o + l.length ≤ n && l.all AV.scalar then some { h with t := h.t.set b (.cells e n (c.puts o l) op false) } else none
  | _ => none
def aStore (P : Program) (h : AH) (t : TypeId) (b o : Nat) (v : AV) : Option AH :=
  if aSize P t == some v.cells.length then aPut h b o v.cells else none
/-- A new row. -/
def aNew (P : Program) (h : AH) (e : TypeId) (l : List AV) (op : Bool) : Option (Nat × AH) :=
  if l.all AV.scalar && (P.info? e).isSome then some (h.n, h.push (.cells e l.length (T.ofList l) op false)) else none

/-! ### equality -/
def aEqAll (f : TypeId → AV → AV → Option Bool) : List (TypeId × Option AV × Option AV) → Option Bool
  | [] => some true
  | (t, some a, some b) :: l => match f t a b with
    | some true => aEqAll f l
    | some false => some false
    | none => none
  | _ :: _ => none
def aEq (P : Program) : Nat → TypeId → AV → AV → Option Bool
  | 0, _, _, _ => none
  | d + 1, t, x, y =>
    match P.underlying t, x, y with
    | some .bool, .bool a, .bool b => some (a == b)
    | some (.int _), .int k a, .int k' b => if k = k' then some (a == b) else none
    | some .string, .str a, .str b => some (a == b)
    | some (.pointer _), .ptr none, .ptr b => some b.isNone
    | some (.pointer _), .ptr (some _), .ptr none => some false
    | some (.interface _), .nilIface, .nilIface => some true
    | some (.interface _), .nilIface, .iface _ _ => some false
    | some (.interface _), .iface _ _, .nilIface => some false
    | some (.struct fields), .agg xs, .agg ys =>
      if P.stoodInHeld t then none
      else aEqAll (fun t => aEq P d t) ((fields.toList.filter fun f => f.name != "_").map fun f => (f.type, aPart P f.type xs f.offset, aPart P f.type ys f.offset))
    | some (.array len elem), .agg xs, .agg ys => match aSize P elem with
      | some n => aEqAll (fun t => aEq P d t) ((List.range len).map fun i => (elem, aPart P elem xs (i * n), aPart P elem ys (i * n)))
      | none => none
    | some (.slice _), .slice none _ _ _, .slice b _ _ _ => some b.isNone
    | some (.slice _), .slice (some _) _ _ _, .slice none _ _ _ => some false
    | some (.map _ _), .map none, .map b => some b.isNone
    | some (.map _ _), .map (some _), .map none => some false
    | some (.func _ _ _), .nilFunc, .nilFunc => some true
    | some (.func _ _ _), .nilFunc, .func _ _ _ => some false
    | some (.func _ _ _), .func _ _ _, .nilFunc => some false
    | _, _, _ => none
def eqDepth : Nat := 40

/-! ### operators -/
def aLess : List UInt8 → List UInt8 → Bool := Op.bytesLess
def strMax : Nat := 4611686018427387904
def aBin (P : Program) (op : BinOp) (t : TypeId) (constOp : Bool) (x y : AV) : Option AV :=
  match op, x, y with
  | .shl, .int k a, .int _ b => if b < 0 then none else some (.int k (k.wrap (a * 2 ^ (min b.toNat k.bits))))
  | .shr, .int k a, .int _ b => if b < 0 then none else some (.int k (a.fdiv (2 ^ (min b.toNat k.bits))))
  | op, .int k a, .int k' b =>
    if k ≠ k' then none else match op with
    | .add => some (.int k (k.wrap (a + b)))
    | .sub => some (.int k (k.wrap (a - b)))
    | .mul => some (.int k (k.wrap (a * b)))
    | .quo => if b = 0 then none else some (.int k (k.wrap (a.tdiv b)))
    | .rem => if b = 0 then none else some (.int k (a.tmod b))
    | .and => some (.int k (k.wrap (BitVec.ofInt k.bits a &&& BitVec.ofInt k.bits b).toNat))
    | .or => some (.int k (k.wrap (BitVec.ofInt k.bits a ||| BitVec.ofInt k.bits b).toNat))
    | .xor => some (.int k (k.wrap (BitVec.ofInt k.bits a ^^^ BitVec.ofInt k.bits b).toNat))
    | .andNot => some (.int k (k.wrap (BitVec.ofInt k.bits a &&& ~~~ BitVec.ofInt k.bits b).toNat))
    | .eql => some (.bool (a == b))
    | .neq => some (.bool (a != b))
    | .lss => some (.bool (a < b))
    | .leq => some (.bool (a ≤ b))
    | .gtr => some (.bool (a > b))
    | .geq => some (.bool (a ≥ b))
    | _ => none
  | op, .str a, .str b => match op with
    | .add => if a.length + b.length ≤ strMax then some (.str (a ++ b)) else none
    | .eql => some (.bool (a == b))
    | .neq => some (.bool !(a == b))
    | .lss => some (.bool (aLess a b))
    | .leq => some (.bool (aLess a b || a == b))
    | .gtr => some (.bool !(aLess a b || a == b))
    | .geq => some (.bool !(aLess a b))
    | _ => none
  | .eql, x, y => if aGuard P t constOp x y then (aEq P eqDepth t x y).map .bool else none
  | .neq, x, y => if aGuard P t constOp x y then (aEq P eqDepth t x y).map fun b => .bool !b else none
  | _, _, _ => none
where
  aGuard (P : Program) (t : TypeId) (constOp : Bool) : AV → AV → Bool
  | .nilIface, .nilIface => constOp
  | .agg _, .agg _ => !P.eqGuardType P.depth t
  | _, _ => true

def aUn (op : UnOp) (x : AV) : Option AV :=
  match op, x with
  | .neg, .int k n => some (.int k (k.wrap (0 - n)))
  | .xor, .int k n => some (.int k (k.wrap (BitVec.ofInt k.bits (if k.signed then -1 else k.max) ^^^ BitVec.ofInt k.bits n).toNat))
  | .not, .bool b => some (.bool !b)
  | _, _ => none

/-- The bytes of a row. -/
def aBytesOf : List AV → Option (List UInt8)
  | [] => some []
  | .int .u8 n :: l => (aBytesOf l).map (UInt8.ofNat n.toNat :: ·)
  | _ :: _ => none
def ofBytes (l : List UInt8) : List AV := l.map fun b => .int .u8 b.toNat

inductive ARes where
  | val (v : AV)
  | skip
  | call (f : FuncId) (args : List AV)
  | go (f : FuncId) (args : List AV)
  | recv (b : Nat) (z : AV)
  deriving Inhabited

def retV (h : AH) (v : Option AV) : Option (ARes × AH) := v.map fun v => (.val v, h)

def aConvert (P : Program) (h : AH) (src dst : TypeId) (x : AV) : Option (ARes × AH) :=
  match P.underlying src, P.underlying dst, x with
  | some _, some (.int k), .int _ n => some (.val (.int k (k.wrap n)), h)
  | some .string, some .string, .str l => some (.val (.str l), h)
  | some .string, some (.slice e), .str l => match P.underlying e with
    | some (.int .u8) => if aSize P e = some 1 then match aNew P h e (ofBytes l) true with
        | some (b, h') => some (.val (.slice (some (b, 0)) l.length l.length true), h')
        | none => none
      else none
    | _ => none
  | some (.slice e), some .string, .slice p len _ _ => match P.underlying e, p with
    | some (.int .u8), none => some (.val (.str []), h)
    | some (.int .u8), some (b, o) => match aCellsAt h b o len with
      | some l => (aBytesOf l).map fun s => (.val (.str s), h)
      | none => none
    | _, _ => none
  | _, _, _ => none

/-- Fill parts into a row. -/
def aFill (place : Nat → Option (Nat × Nat)) (cells : List AV) : List (Nat × AV) → Option (List AV)
  | [] => some cells
  | (i, v) :: rest => match place i with
    | some (off, size) => if v.cells.length = size ∧ off + size ≤ cells.length ∧ v.cells.all AV.scalar then aFill place (cells.take off ++ v.cells ++ cells.drop (off + size)) rest else none
    | none => none
def aPlaces (P : Program) : List Field → Option (List (Nat × Nat))
  | [] => some []
  | f :: fs => match aSize P f.type, aPlaces P fs with
    | some n, some l => some ((f.offset, n) :: l)
    | _, _ => none
def aBuild (P : Program) (t : TypeId) (parts : List (Nat × AV)) : Option AV :=
  match aZero P t, P.underlying t with
  | some z, some (.struct fields) => match aPlaces P fields.toList with
    | some places => if z.cells.all AV.scalar then (aFill (places[·]?) z.cells parts).map .agg else none
    | none => none
  | some z, some (.array _ elem) => match aSize P elem with
    | some n => if z.cells.all AV.scalar then (aFill (fun i => some (i * n, n)) z.cells parts).map .agg else none
    | none => none
  | _, _ => none
def aRep (l : List AV) : Nat → List AV
  | 0 => []
  | n + 1 => l ++ aRep l n

/-- An index. -/
def aIdx : AV → Option Int
  | .int _ n => some n
  | _ => none
/-- A bound: at most so great. -/
def aBound (v : Option AV) (dflt : Nat) (y : Nat) : Option Nat :=
  match v with
  | none => some dflt
  | some (.int _ i) => if 0 ≤ i ∧ i ≤ y then some i.toNat else none
  | _ => none
def aBounds (len cap : Nat) (lo hi mx : Option AV) : Option (Nat × Nat × Nat) :=
  match aBound mx cap cap with
  | none => none
  | some m => match mx, hi with
    | some _, none => none
    | _, _ => match aBound hi len (if mx.isSome then m else cap) with
      | none => none
      | some h => match aBound lo 0 h with
        | none => none
        | some l => some (l, h, m)
def aSlice (P : Program) (t : TypeId) (x : AV) (lo hi mx : Option AV) : Option AV :=
  match P.underlying t, x with
  | some (.array n elem), .ptr (some (b, o)) => match aBounds n n lo hi mx, aSize P elem with
    | some (l, h, m), some sz => some (.slice (some (b, o + l * sz)) (h - l) (m - l) false)
    | _, _ => none
  | some .string, .str s => if mx.isSome then none else match aBounds s.length s.length lo hi none with
    | some (l, h, _) => some (.str ((s.drop l).take (h - l)))
    | none => none
  | some (.slice elem), .slice p len cap op => match aBounds len cap lo hi mx, aSize P elem, p with
    | some (l, h, m), some sz, some (b, o) => some (.slice (some (b, o + l * sz)) (h - l) (m - l) (op && mx.isNone))
    | some (l, h, m), some _, none => some (.slice none (h - l) (m - l) op)
    | _, _, _ => none
  | _, _ => none

def aIndexAddr (P : Program) (t : TypeId) (x ix : AV) : Option AV :=
  match aIdx ix, P.underlying t, x with
  | some i, some (.array len elem), .ptr (some (b, o)) => match aSize P elem with
    | some sz => if 0 ≤ i ∧ i < len then some (.ptr (some (b, o + i.toNat * sz))) else none
    | none => none
  | some i, some (.slice elem), .slice (some (b, o)) len _ _ => match aSize P elem with
    | some sz => if 0 ≤ i ∧ i < len then some (.ptr (some (b, o + i.toNat * sz))) else none
    | none => none
  | _, _, _ => none
def aIndex (P : Program) (t : TypeId) (x ix : AV) : Option AV :=
  match aIdx ix, P.underlying t, x with
  | some i, some (.array len elem), .agg cs => match aSize P elem with
    | some sz => if 0 ≤ i ∧ i < len then aPart P elem cs (i.toNat * sz) else none
    | none => none
  | some i, some .string, .str s => if 0 ≤ i then match s[i.toNat]? with
    | some b => some (.int .u8 b.toNat)
    | none => none
    else none
  | _, _, _ => none
def aFieldAddr (P : Program) (t : TypeId) (x : AV) (f : Nat) : Option AV :=
  match P.underlying t, x with
  | some (.struct fields), .ptr (some (b, o)) => match fields[f]? with
    | some fd => match aSize P fd.type with
      | some (_ + 1) => some (.ptr (some (b, o + fd.offset)))
      | _ => none
    | none => none
  | _, _ => none
def aField (P : Program) (t : TypeId) (x : AV) (f : Nat) : Option AV :=
  match P.underlying t, x with
  | some (.struct fields), .agg cs => match fields[f]? with
    | some fd => aPart P fd.type cs fd.offset
    | none => none
  | _, _ => none

/-! ### maps -/
def aSame : AV → AV → Bool
  | .int j a, .int k b => j == k && a == b
  | .str a, .str b => a == b
  | .bool a, .bool b => a == b
  | .agg a, .agg b => a.length == b.length && (a.zip b).all fun
    | (.int j a, .int k b) => j == k && a == b
    | _ => false
  | _, _ => false
/-- Can a value of this type be a key (nothing in it can panic)? -/
def aKey (P : Program) : Nat → TypeId → AV → Bool
  | 0, _, _ => false
  | d + 1, t, v => match P.underlying t, v with
    | some (.int _), .int _ _ => true
    | some .string, .str _ => true
    | some (.array len elem), .agg cs => match aSize P elem with
      | some n => (List.range len).all fun i => match aPart P elem cs (i * n) with
        | some x => aKey P d elem x
        | none => false
      | none => false
    | some (.struct fields), .agg cs => fields.toList.all fun f => if f.name ≠ "_" then match aPart P f.type cs f.offset with
        | some x => aKey P d f.type x
        | none => false
      else true
    | _, _ => false
def aFind (P : Program) (kt : TypeId) (k : AV) : List (AV × AV × Nat) → Nat → Option (Option (Nat × AV × Nat))
  | [], _ => some none
  | (k', v, bn) :: l, i => match aEq P eqDepth kt k k' with
    | some true => if aSame k' k then some (some (i, v, bn)) else none
    | some false => aFind P kt k l (i + 1)
    | none => none
def aEntries (h : AH) : AV → Option (List (AV × AV × Nat))
  | .map none => some []
  | .map (some b) => match h.t.get b with
    | some (.map es _) => some es
    | _ => none
  | _ => none
def aLookup (P : Program) (h : AH) (t : TypeId) (x k : AV) (ok : Bool) : Option AV :=
  match P.underlying t with
  | some (.map kt et) => match aEntries h x with
    | none => none
    | some es => if aKey P eqDepth kt k then match aFind P kt k es 0 with
      | some (some (_, v, _)) => some (if ok then .tuple [v, .bool true] else v)
      | some none => (aZero P et).map fun z => if ok then .tuple [z, .bool false] else z
      | none => none
      else none
  | _ => none
def aMapUpdate (P : Program) (h : AH) (t : TypeId) (m k v : AV) : Option AH :=
  match P.underlying t, m with
  | some (.map kt _), .map (some b) => match h.t.get b with
    | some (.map es clock) => if aKey P eqDepth kt k then match aFind P kt k es 0 with
      | some (some (i, _, bn)) => some { h with t := h.t.set b (.map (es.set i (k, v, bn)) clock) }
      | some none => some { h with t := h.t.set b (.map (es ++ [(k, v, clock)]) (clock + 1)) }
      | none => none
      else none
    | _ => none
  | _, _ => none
def aMapEntry (P : Program) (h : AH) (t : TypeId) (m k : AV) : Option (ARes × AH) :=
  match P.underlying t, m with
  | some (.map kt et), .map (some b) => match h.t.get b with
    | some (.map es clock) => if aKey P eqDepth kt k then match aFind P kt k es 0 with
      | some (some (i, v, bn)) => some (.val (.tuple [v, .int .i64 bn]), { h with t := h.t.set b (.map (es.set i (k, v, bn)) clock) })
      | some none => (aZero P et).map fun z => (.val (.tuple [z, .int .i64 clock]), { h with t := h.t.set b (.map (es ++ [(k, z, clock)]) (clock + 1)) })
      | none => none
      else none
    | _ => none
  | _, _ => none
def aEntryStore (h : AH) (m st v : AV) : Option AH :=
  match m, st with
  | .map (some b), .int _ born => match h.t.get b with
    | some (.map es clock) => match es.findIdx? (fun e => (e.2.2 : Int) == born) with
      | some i => match es[i]? with
        | some (k, _, bn) => some { h with t := h.t.set b (.map (es.set i (k, v, bn)) clock) }
        | none => none
      | none => none
    | _ => none
  | _, _ => none

/-! ### builtins -/
def aLen (P : Program) (t : TypeId) (h : AH) (x : AV) : Option AV :=
  match P.underlying t, x with
  | some .string, .str s => some (.int .i64 s.length)
  | some (.array n _), _ => some (.int .i64 n)
  | some (.pointer arr), _ => match P.underlying arr with
    | some (.array n _) => some (.int .i64 n)
    | _ => none
  | some (.slice _), .slice _ n _ _ => some (.int .i64 n)
  | some (.map _ _), .map none => some (.int .i64 0)
  | some (.map _ _), .map (some b) => match h.t.get b with
    | some (.map es _) => some (.int .i64 es.length)
    | _ => none
  | _, _ => none
def aLenOf : AV → Option Nat
  | .slice _ n _ _ => some n
  | .str s => some s.length
  | _ => none
def aFirst (h : AH) (size n : Nat) : AV → Option (List AV)
  | .slice (some (b, o)) _ _ _ => aCellsAt h b o (n * size)
  | .slice none _ _ _ => some []
  | .str s => some (ofBytes (s.take n))
  | _ => none
def roomMax : Nat := 17592186044416
def aAppended (h : AH) (size bytes : Nat) (z : AV) (xd : TypeDesc) (x : AV) : Option (Nat × List AV) :=
  if aInt xd then match x with
    | .int _ n => if 0 ≤ n ∧ n ≤ 1048576 ∧ n.toNat * bytes ≤ roomMax then some (n.toNat, aRep z.cells n.toNat) else none
    | _ => none
  else match aLenOf x with
    | some n => (aFirst h size n x).map fun l => (n, l)
    | none => none
where
  aInt : TypeDesc → Bool
  | .int _ => true
  | _ => false
def aAppend (P : Program) (h : AH) (ts : List TypeId) (args : List AV) : Option (ARes × AH) :=
  match ts, args with
  | st :: xt :: _, [.slice p len cap op, x] => match P.underlying st with
    | some (.slice elem) => match aSize P elem, aBytes P elem, aZero P elem, P.underlying xt with
      | some size, some bytes, some z, some xd =>
        match aAppended h size bytes z xd x with
        | none => none
        | some (n, new) =>
          if new.length ≠ n * size ∨ z.cells.length ≠ size ∨ z.cells.all AV.scalar = false then none
          else if len + n ≤ cap then match p with
            | some (b, o) => if n = 0 then some (.val (.slice p len cap op), h) else (aPut h b (o + len * size) new).map fun h' => (.val (.slice p (len + n) cap op), h')
            | none => if n = 0 then some (.val (.slice none len cap op), h) else none
          else if roomMax < (2 * (len + n) + 1000) * (bytes + 1) then none
          else match aFirst h size len (.slice p len cap op) with
            | none => none
            | some old => if old.length ≠ len * size then none else match p with
              | some (b, o) =>
                if op then match h.t.get b with
                  | some (.cells e nb _ true false) => if e == elem && decide (o + cap * size ≤ nb) then match aNew P { h with t := h.t.set b .dead } elem (old ++ new) true with
                      | some (b', h') => some (.val (.slice (some (b', 0)) (len + n) (len + n) true), h')
                      | none => none
                    else none
                  | _ => none
                else match aNew P h elem (old ++ new) true with
                  | some (b', h') => some (.val (.slice (some (b', 0)) (len + n) (len + n) true), h')
                  | none => none
              | none => match aNew P h elem (old ++ new) true with
                | some (b', h') => some (.val (.slice (some (b', 0)) (len + n) (len + n) true), h')
                | none => none
      | _, _, _, _ => none
    | _ => none
  | _, _ => none
def aCopy (P : Program) (h : AH) (ts : List TypeId) (args : List AV) : Option (ARes × AH) :=
  match ts, args with
  | dt :: _, [.slice p dl _ _, src] => match P.underlying dt with
    | some (.slice elem) => match aSize P elem, aLenOf src with
      | some size, some sl => match aFirst h size (min sl dl) src with
        | some l => match p with
          | some (b, o) => if l.isEmpty then some (.val (.int .i64 ((min sl dl : Nat) : Int)), h) else (aPut h b o l).map fun h' => (.val (.int .i64 ((min sl dl : Nat) : Int)), h')
          | none => some (.val (.int .i64 ((min sl dl : Nat) : Int)), h)
        | none => none
      | _, _ => none
    | _ => none
  | _, _ => none
def aClear (P : Program) (h : AH) (ts : List TypeId) (args : List AV) : Option (ARes × AH) :=
  match ts, args with
  | t :: _, [.slice p n _ _] => match P.underlying t with
    | some (.slice elem) => match p, n with
      | none, _ => some (.val (.tuple []), h)
      | some _, 0 => some (.val (.tuple []), h)
      | some (b, o), n + 1 => match aZero P elem with
        | some z => (aPut h b o (aRep z.cells (n + 1))).map fun h' => (.val (.tuple []), h')
        | none => none
    | _ => none
  | _, _ => none
def aMinMax (mx : Bool) : List AV → Option AV
  | .int k a :: l => aMM mx k a l
  | _ => none
where
  aMM (mx : Bool) (k : IntKind) (a : Int) : List AV → Option AV
  | [] => some (.int k a)
  | .int _ b :: l => aMM mx k (if mx then (if b > a then b else a) else (if b < a then b else a)) l
  | _ :: _ => none

def aBuiltin (P : Program) (h : AH) (b : Builtin) (ts : List TypeId) (args : List AV) : Option (ARes × AH) :=
  match b with
  | .len => match ts, args with
    | t :: _, x :: _ => retV h (aLen P t h x)
    | _, _ => none
  | .append => aAppend P h ts args
  | .copy => aCopy P h ts args
  | .clear => aClear P h ts args
  | .min => retV h (aMinMax false args)
  | .max => retV h (aMinMax true args)
  | _ => none

/-- Is there such a function, with a body? -/
def aCallable (P : Program) (f : FuncId) : Bool := match P.funcs[f]? with
  | some fn => !(fn.name == "runtime.NumGoroutine") && fn.body.isSome
  | none => false

def evalAll (ρ : Operand → Option AV) : List Operand → Option (List AV)
  | [] => some []
  | x :: l => match ρ x, evalAll ρ l with
    | some a, some m => some (a :: m)
    | _, _ => none
def evalParts (ρ : Operand → Option AV) : List (Nat × Operand) → Option (List (Nat × AV))
  | [] => some []
  | (i, x) :: l => match ρ x, evalParts ρ l with
    | some a, some m => some ((i, a) :: m)
    | _, _ => none
def evalOpt (ρ : Operand → Option AV) : Option Operand → Option (Option AV)
  | none => some none
  | some x => (ρ x).map some

def aCall (P : Program) (ρ : Operand → Option AV) (c : Call) (h : AH) : Option (ARes × AH) :=
  match evalAll ρ c.args.toList with
  | none => none
  | some args => match c.callee with
    | .builtin b => aBuiltin P h b c.argTypes.toList args
    | .value f => match ρ f with
      | some (.func (.func g) first cap) => if aCallable P g then some (.call g (first ++ args ++ cap), h) else none
      | _ => none
    | .invoke r name => match ρ r with
      | some (.iface t v) => match P.info? t with
        | some i => match i.methods.find? (·.name == name) with
          | some m => if m.path.isEmpty then match m.func, P.underlying t with
              | some (f, true), some (.pointer _) => if aCallable P f then some (.call f (v :: args), h) else none
              | some (_, false), some (.pointer _) => none
              | some (f, false), some _ => if aCallable P f then some (.call f (v :: args), h) else none
              | _, _ => none
            else none
          | none => none
        | none => none
      | _ => none

/-- Does a type lack a method of these? -/
def aLacks (P : Program) (want : Array (String × TypeId)) (u : TypeId) : Bool := match P.info? u with
  | some i => want.toList.any fun x => !(i.methods.toList.any fun m => m.name == x.1 && m.sig == x.2)
  | none => false

/-- An operation. -/
def aop (P : Program) (ρ : Operand → Option AV) (o : Oper) (h : AH) : Option (ARes × AH) :=
  match o.op with
  | .move x => retV h (ρ x)
  | .assign x => retV h (ρ x)
  | .pick c a b => match ρ c with
    | some (.bool t) => retV h (if t then ρ a else ρ b)
    | _ => none
  | .alloc e => match aZero P e with
    | some z => match aNew P h e z.cells false with
      | some (b, h') => some (.val (.ptr (some (b, 0))), h')
      | none => none
    | none => none
  | .box e x => match ρ x with
    | some v => match aNew P h e v.cells false with
      | some (b, h') => some (.val (.ptr (some (b, 0))), h')
      | none => none
    | none => none
  | .build t parts => match evalParts ρ parts.toList with
    | some ps => retV h (aBuild P t ps)
    | none => none
  | .buildSlice t len parts => match evalParts ρ parts.toList, P.underlying t with
    | some ps, some (.slice elem) => match aSize P elem, aZero P elem with
      | some size, some z => if len * size ≤ 2 ^ 24 ∧ z.cells.length = size ∧ z.cells.all AV.scalar then match aFill (fun i => some (i * size, size)) (aRep z.cells len) ps with
          | some l => match aNew P h elem l false with
            | some (b, h') => some (.val (.slice (some (b, 0)) len len false), h')
            | none => none
          | none => none
        else none
      | _, _ => none
    | _, _ => none
  | .load t a => match ρ a with
    | some (.ptr (some (b, off))) => retV h (aLoad P h t b off)
    | _ => none
  | .store t a x => match ρ a, ρ x with
    | some (.ptr (some (b, off))), some v => (aStore P h t b off v).map fun h' => (.skip, h')
    | _, _ => none
  | .nilCheck x => match ρ x with
    | some (.ptr (some p)) => some (.val (.ptr (some p)), h)
    | some (.func (.func f) a b) => some (.val (.func (.func f) a b), h)
    | some (.iface t v) => some (.val (.iface t v), h)
    | _ => none
  | .binOp op t x y _ => match ρ x, ρ y with
    | some a, some b => retV h (aBin P op t (match x, y with | .const _, _ => true | _, .const _ => true | _, _ => false) a b)
    | _, _ => none
  | .unOp op _ x => match ρ x with
    | some a => retV h (aUn op a)
    | none => none
  | .convert s d x => match ρ x with
    | some a => aConvert P h s d a
    | none => none
  | .makeInterface t x => match ρ x, P.underlying t with
    | some _, some (.interface _) => none
    | some v, some _ => some (.val (.iface t v), h)
    | _, _ => none
  | .makeFunc fn first cap => match evalAll ρ first.toList, evalAll ρ cap.toList with
    | some f, some c => some (.val (.func fn f c), h)
    | _, _ => none
  | .makeMap t none => if (P.underlying t).isSome then some (.val (.map (some h.n)), h.push (.map [] 0)) else none
  | .makeChan t s => match ρ s, P.underlying t with
    | some (.int _ 0), some (.chan _ e) => match P.info? e with
      | some i => if i.bytes ≤ 1048576 then some (.val (.chan (some h.n)), h.push (.chan 0)) else none
      | none => none
    | _, _ => none
  | .makeSlice t l c => match ρ l, ρ c, P.underlying t with
    | some (.int _ l), some (.int _ c), some (.slice e) => match aSize P e, aBytes P e, aZero P e with
      | some size, some bytes, some z => if 0 ≤ l ∧ l ≤ c ∧ c ≤ 16777216 ∧ bytes * c.toNat ≤ roomMax ∧ z.cells.length = size then match aNew P h e (aRep z.cells c.toNat) false with
          | some (b, h') => some (.val (.slice (some (b, 0)) l.toNat c.toNat false), h')
          | none => none
        else none
      | _, _, _ => none
    | _, _, _ => none
  | .slice t x lo hi mx => match ρ x, evalOpt ρ lo, evalOpt ρ hi, evalOpt ρ mx with
    | some v, some l, some hh, some m => retV h (aSlice P t v l hh m)
    | _, _, _, _ => none
  | .fieldAddr t x f => match ρ x with
    | some v => retV h (aFieldAddr P t v f)
    | none => none
  | .field t x f => match ρ x with
    | some v => retV h (aField P t v f)
    | none => none
  | .indexAddr t x i => match ρ x, ρ i with
    | some v, some j => retV h (aIndexAddr P t v j)
    | _, _ => none
  | .index t x i => match ρ x, ρ i with
    | some v, some j => retV h (aIndex P t v j)
    | _, _ => none
  | .lookup t x i ok => match ρ x, ρ i with
    | some v, some k => retV h (aLookup P h t v k ok)
    | _, _ => none
  | .mapUpdate t m k v => match ρ m, ρ k, ρ v with
    | some m, some k, some v => (aMapUpdate P h t m k v).map fun h' => (.skip, h')
    | _, _, _ => none
  | .mapEntry t m k => match ρ m, ρ k with
    | some m, some k => aMapEntry P h t m k
    | _, _ => none
  | .entryStore _ m st v => match ρ m, ρ st, ρ v with
    | some m, some st, some v => (aEntryStore h m st v).map fun h' => (.skip, h')
    | _, _, _ => none
  | .range t x => match ρ x, P.underlying t with
    | some (.str s), some .string => some (.val (.ptr (some (h.n, 0))), h.push (.siter s 0))
    | _, _ => none
  | .next it true => match ρ it with
    | some (.ptr (some (b, 0))) => match h.t.get b with
      | some (.siter s pos) => if pos < s.length then
          let (c, width) := Utf8.decode ⟨s.toArray⟩ pos
          some (.val (.tuple [.bool true, .int .i64 pos, .int .i32 c]), { h with t := h.t.set b (.siter s (pos + width)) })
        else some (.val (.tuple [.bool false]), h)
      | _ => none
    | _ => none
  | .typeAssert x _ t ok => match ρ x, P.underlying t with
    | some (.iface u _), some (.interface want) => if ok && aLacks P want u then (aZero P t).map fun z => (.val (.tuple [z, .bool false]), h) else none
    | some _, some (.interface _) => none
    | some (.iface u v), some _ => if u = t then some (.val (if ok then .tuple [v, .bool true] else v), h)
      else if ok then (aZero P t).map fun z => (.val (.tuple [z, .bool false]), h) else none
    | some .nilIface, some _ => if ok then (aZero P t).map fun z => (.val (.tuple [z, .bool false]), h) else none
    | _, _ => none
  | .extract t i => match ρ t with
    | some (.tuple vs) => retV h vs[i]?
    | _ => none
  | .call c => aCall P ρ c h
  | .go c => match evalAll ρ c.args.toList, c.callee with
    | some args, .value (.func f) => some (.go f args, h)
    | _, _ => none
  | .recv t ch true => match ρ ch, P.underlying t with
    | some (.chan (some b)), some (.chan _ e) => (aZero P e).map fun z => (.recv b z, h)
    | _, _ => none
  | _ => none

end
end Go.Cx

/-
  WHAT AN OPERATION MAY LIST; reads and writes of rows.
-/
namespace Go.Cx
noncomputable section
open Go Go.Conc

/-! ### operations that neither act on an object nor say a word of the library's -/
def Calm {α : Type} (P : Program) : Sem α → Prop
  | .pure _ => True
  | .load _ _ k => ∀ v, Calm P (k v)
  | .store _ _ _ k => Calm P k
  | .new _ k => ∀ r, Calm P (k r)
  | .shape _ k => ∀ s, Calm P (k s)
  | .freeze _ _ k => Calm P k
  | .frozen _ k => ∀ b, Calm P (k b)
  | .getObj _ k => ∀ o, Calm P (k o)
  | .setObj _ _ _ => False
  | .choose _ k => ∀ n, Calm P (k n)
  | .sys _ _ => False
  | .program k => Calm P (k P)
  | .mark m k => Neutral m ∧ Calm P k
  | .halt _ => True

def EvOk (e : Event) : Prop := (∀ m, e.loc = .mark m → Neutral m) ∧ (∀ k, e.loc = .obj k → e.write = false)

theorem Calm.runT {α : Type} {P : Program} : ∀ {s : Sem α}, Calm P s → ∀ (w : World) (es : Array Event) (e : Event), e ∈ (s.runT P w es).2 → e ∈ es ∨ EvOk e := by
  intro s
  induction s with
  | pure a => intro _ w es e h; exact .inl (by simpa [Sem.runT] using h)
  | load m a k ih =>
    intro hc w es e h
    simp only [Sem.runT] at h
    split at h
    · rcases ih _ (hc _) _ _ _ h with h | h
      · rcases Array.mem_push.1 h with h | rfl
        · exact .inl h
        · exact .inr ⟨by simp, by simp⟩
      · exact .inr h
    · split at h
      · rcases ih _ (hc _) _ _ _ h with h | h
        · rcases Array.mem_append.1 h with h | h
          · exact .inl h
          · obtain ⟨x, _, rfl⟩ := Array.mem_map.1 h
            exact .inr ⟨by simp, by simp⟩
        · exact .inr h
      · exact .inl h
  | store m a v k ih =>
    intro hc w es e h
    cases v <;> simp only [Sem.runT] at h <;> first
      | exact .inl h
      | (split at h
         · split at h
           · exact .inl h
           · rcases ih hc _ _ _ h with h | h
             · rcases Array.mem_push.1 h with h | rfl
               · exact .inl h
               · exact .inr ⟨by simp, by simp⟩
             · exact .inr h
         · split at h
           · rcases ih hc _ _ _ h with h | h
             · rcases Array.mem_append.1 h with h | h
               · exact .inl h
               · obtain ⟨x, _, rfl⟩ := Array.mem_map.1 h
                 exact .inr ⟨by simp, by simp⟩
             · exact .inr h
           · exact .inl h)
  | new o k ih => intro hc w es e h; exact ih _ (hc _) _ _ _ (by simpa only [Sem.runT] using h)
  | shape r k ih => intro hc w es e h; exact ih _ (hc _) _ _ _ (by simpa only [Sem.runT] using h)
  | freeze a n k ih => intro hc w es e h; exact ih hc _ _ _ (by simpa only [Sem.runT] using h)
  | frozen a k ih => intro hc w es e h; exact ih _ (hc _) _ _ _ (by simpa only [Sem.runT] using h)
  | getObj r k ih =>
    intro hc w es e h
    simp only [Sem.runT] at h
    split at h
    · exact .inl h
    · rcases ih _ (hc _) _ _ _ h with h | h
      · rcases Array.mem_push.1 h with h | rfl
        · exact .inl h
        · exact .inr ⟨by simp, by simp⟩
      · exact .inr h
    · exact .inl h
  | setObj r o k ih => intro hc; exact hc.elim
  | choose q k ih =>
    intro hc w es e h
    simp only [Sem.runT] at h
    split at h <;> exact ih _ (hc _) _ _ _ h
  | sys c k ih => intro hc; exact hc.elim
  | program k ih => intro hc w es e h; exact ih _ hc _ _ _ (by simpa only [Sem.runT] using h)
  | mark m k ih =>
    intro hc w es e h
    simp only [Sem.runT] at h
    rcases ih hc.2 _ _ _ h with h | h
    · rcases Array.mem_push.1 h with h | rfl
      · exact .inl h
      · exact .inr ⟨fun m' e' => by simp at e'; subst e'; exact hc.1, by simp⟩
    · exact .inr h
  | halt h => intro _ w es e he; exact .inl (by simpa [Sem.runT] using he)

theorem Calm.bind {α β : Type} {P : Program} {s : Sem α} {f : α → Sem β} (h : Calm P s) (hf : ∀ a, Calm P (f a)) : Calm P (s >>= f) := by
  show Calm P (s.bind f)
  induction s with
  | pure a => exact hf a
  | load m a k ih => exact fun v => ih v (h v)
  | store m a v k ih => exact ih h
  | new o k ih => exact fun v => ih v (h v)
  | shape r k ih => exact fun v => ih v (h v)
  | freeze a n k ih => exact ih h
  | frozen a k ih => exact fun v => ih v (h v)
  | getObj r k ih => exact fun v => ih v (h v)
  | setObj r o k ih => exact h.elim
  | choose q k ih => exact fun v => ih v (h v)
  | sys c k ih => exact h.elim
  | program k ih => exact ih P h
  | mark m k ih => exact ⟨h.1, ih h.2⟩
  | halt x => trivial
theorem Calm.pure {α : Type} {P : Program} (a : α) : Calm P (Pure.pure a : Sem α) := trivial
theorem Calm.map {α β : Type} {P : Program} {s : Sem α} {f : α → β} (h : Calm P s) : Calm P (f <$> s) := Calm.bind h fun _a => Calm.pure _
theorem Calm.ite {α : Type} {P : Program} {c : Prop} [Decidable c] {x y : Sem α} (hx : Calm P x) (hy : Calm P y) : Calm P (if c then x else y) := by split <;> assumption
theorem calm_halt {α : Type} {P : Program} (h : Halt) : Calm P (Sem.halt h : Sem α) := trivial
theorem calm_stuck {α : Type} {P : Program} (s : String) : Calm P (stuck s : Sem α) := trivial
theorem calm_unsupported {α : Type} {P : Program} (u : Unsupported) : Calm P (unsupported u : Sem α) := trivial
theorem calm_goPanic {α : Type} {P : Program} (v : Value) : Calm P (goPanic v : Sem α) := trivial
theorem calm_load {P : Program} (a : Addr) (m : Mode) : Calm P (load a m) := fun _ => trivial
theorem calm_store {P : Program} (a : Addr) (v : Value) (m : Mode) : Calm P (store a v m) := trivial
theorem calm_newObj {P : Program} (o : Obj) : Calm P (newObj o) := fun _ => trivial
theorem calm_shape {P : Program} (r : Nat) : Calm P (shape r) := fun _ => trivial
theorem calm_freeze {P : Program} (a : Addr) (n : Nat) : Calm P (freeze a n) := trivial
theorem calm_frozen {P : Program} (a : Addr) : Calm P (frozen a) := fun _ => trivial
theorem calm_getObj {P : Program} (r : Nat) : Calm P (getObj r) := fun _ => trivial
theorem calm_choose {P : Program} (q : Question) : Calm P (choose q) := fun _ => trivial
theorem calm_program {P : Program} : Calm P program := trivial
theorem calm_noRoom {P : Program} : Calm P (mark .noRoom) := ⟨rfl, trivial⟩
theorem calm_askRoom {P : Program} (n : Nat) : Calm P (askRoom n) := by unfold askRoom; exact .ite calm_noRoom (.pure _)
theorem calm_typeInfo {P : Program} (t : TypeId) : Calm P (typeInfo t) := by
  unfold typeInfo; refine .bind calm_program fun p => ?_; split <;> trivial
theorem calm_underlying {P : Program} (t : TypeId) : Calm P (underlying t) := by
  unfold underlying; refine .bind calm_program fun p => ?_; split <;> trivial
theorem calm_zeroValue {P : Program} (t : TypeId) : Calm P (zeroValue t) := by
  unfold zeroValue; refine .bind (calm_typeInfo t) fun p => ?_; split <;> trivial
theorem calm_sizeOf {P : Program} (t : TypeId) : Calm P (sizeOf t) := by unfold sizeOf; exact .bind (calm_typeInfo t) fun _ => .pure _
theorem calm_isAgg {P : Program} (t : TypeId) : Calm P (isAgg t) := by
  unfold isAgg; refine .bind (calm_underlying t) fun p => ?_; split <;> trivial
theorem calm_loadCellsFrom {P : Program} (a : Addr) : ∀ (n i : Nat) (acc : Array Value), Calm P (loadCellsFrom a i n acc)
  | 0, _, _ => trivial
  | n + 1, _i, _acc => .bind (calm_load _ _) fun _ => calm_loadCellsFrom a n _ _
theorem calm_loadCells {P : Program} (a : Addr) (n : Nat) : Calm P (loadCells a n) := calm_loadCellsFrom a n 0 #[]
theorem calm_storeCells {P : Program} (a : Addr) : ∀ (vs : List Value) (i : Nat), Calm P (storeCells a vs i)
  | [], _ => trivial
  | _v :: vs, i => .bind (calm_store _ _ _) fun _ => calm_storeCells a vs (i + 1)
theorem calm_loadVar {P : Program} (t : TypeId) (a : Addr) : Calm P (loadVar t a) := by
  unfold loadVar
  refine .bind (calm_isAgg t) fun b => ?_
  split
  · exact .bind (calm_sizeOf t) fun n => .bind (calm_loadCells a n) fun _ => .pure _
  · exact calm_load _ _
theorem calm_storeVar {P : Program} (t : TypeId) (a : Addr) (v : Value) : Calm P (storeVar t a v) := by
  unfold storeVar
  refine .bind (calm_sizeOf t) fun n => ?_
  split
  · exact .bind (calm_stuck _) fun _ => calm_storeCells a _ _
  · exact calm_storeCells a _ _
theorem calm_newVar {P : Program} (t : TypeId) (v : Value) : Calm P (newVar t v) := by
  unfold newVar newRow; exact .bind (calm_newObj _) fun _ => .pure _
theorem calm_newRow {P : Program} (t : TypeId) (v : Array Value) : Calm P (newRow t v) := by
  unfold newRow; exact .bind (calm_newObj _) fun _ => .pure _
theorem calm_part {P : Program} (t : TypeId) (cs : Array Value) (off : Nat) : Calm P (part t cs off) := by
  unfold part
  refine .bind (calm_isAgg t) fun b => ?_
  split
  · exact .bind (calm_sizeOf t) fun n => .pure _
  · split <;> trivial
theorem calm_runtimePanic {α : Type} {P : Program} (e : RuntimeError) : Calm P (runtimePanic e : Sem α) := by
  unfold runtimePanic
  refine .bind calm_program fun p => ?_
  have he : ∀ t, Calm P (elemOf t) := fun t => by unfold elemOf; refine .bind (calm_underlying t) fun d => ?_; split <;> trivial
  split <;> first | trivial | exact .bind (he _) fun _ => .bind (calm_newVar _ _) fun _ => trivial
theorem calm_boundsPanic {α : Type} {P : Program} (k : IntKind) (x y : Int) (c : BoundsCode) : Calm P (boundsPanic k x y c : Sem α) := by
  unfold boundsPanic
  dsimp only
  split
  · exact .bind (.map (calm_choose _)) fun _ => calm_runtimePanic _
  · exact .bind (.pure _) fun _ => calm_runtimePanic _
theorem calm_asIntOf {P : Program} (v : Value) : Calm P (asIntOf v) := by unfold asIntOf; split <;> trivial
theorem calm_asInt {P : Program} (v : Value) : Calm P (asInt v) := by unfold asInt; exact .bind (calm_asIntOf v) fun _ => .pure _
theorem calm_asBool {P : Program} (v : Value) : Calm P (asBool v) := by unfold asBool; split <;> trivial
theorem calm_asAgg {P : Program} (v : Value) : Calm P (asAgg v) := by unfold asAgg; split <;> trivial

/-! ### what the trace keeps -/
theorem mem_seen {P : Program} {fn : FuncId} {es : Array Event} {e : Event} (h : e ∈ seen P fn es) : e ∈ es := by
  unfold seen at h
  simp only [← Array.foldl_toList] at h
  have key : ∀ (l : List Event) (x : Bool × Array Event), e ∈ (l.foldl (fun (x : Bool × Array Event) e => match e.loc with
      | .mark (.extern f) => ((P.funcs[f]?).any (·.norace), x.2)
      | _ => (x.1, if x.1 && !e.sync then x.2 else x.2.push e)) x).2 → e ∈ x.2 ∨ e ∈ l := by
    intro l
    induction l with
    | nil => intro x h; exact .inl h
    | cons y l ih =>
      intro x h
      rw [List.foldl_cons] at h
      rcases ih _ h with h | h
      · split at h
        · exact .inl h
        · dsimp only at h
          split at h
          · exact .inl h
          · rcases Array.mem_push.1 h with h | rfl
            · exact .inl h
            · exact .inr (by simp)
      · exact .inr (by simp [h])
  rcases key es.toList _ h with h | h
  · simp at h
  · simpa using h

theorem Calm.listed {P : Program} {a : Act} {o : Oper} (h : Calm P (execOp a.eval o)) (fn : FuncId) (w : World) : ∀ e ∈ listed P fn a o w, EvOk e := by
  intro e he
  have h1 := mem_seen he
  rw [Sem.events] at h1
  rcases h.runT w #[] e h1 with h2 | h2
  · simp at h2
  · exact h2

/-! ### looking types up -/
section
variable {P : Program} {w : World}
theorem run_und {t : TypeId} {d : TypeDesc} (h : P.underlying t = some d) (w : World) : (underlying t).run P w = .ok d w := by simp [underlying, h]
theorem run_info {t : TypeId} {i : TypeInfo} (h : P.info? t = some i) (w : World) : (typeInfo t).run P w = .ok i w := by simp [typeInfo, h]
theorem run_size {t : TypeId} {n : Nat} (h : aSize P t = some n) (w : World) : (sizeOf t).run P w = .ok n w := by
  unfold aSize at h
  obtain ⟨i, hi, rfl⟩ := Option.map_eq_some_iff.1 h
  simp [sizeOf, run_info hi]
theorem run_isAgg {t : TypeId} (h : aKnown P t = true) (w : World) : (isAgg t).run P w = .ok (aIsAgg P t) w := by
  unfold aKnown at h
  cases hu : P.underlying t with
  | none => simp [hu] at h
  | some d => cases d <;> simp [isAgg, run_und hu, aIsAgg, hu]
theorem aIsAgg_known {t : TypeId} (h : aIsAgg P t = true) : aKnown P t = true := by
  unfold aIsAgg at h; unfold aKnown
  cases hu : P.underlying t <;> simp [hu] at h ⊢

theorem absS_any {v : Value} {a : AV} (h : absS v = some a) : a.scalar = true ∧ ∀ env, VR env a v := by
  unfold absS at h
  split at h <;> first | (cases h; done) | (simp only [Option.some.injEq] at h; subst h; exact ⟨rfl, fun env => by constructor⟩)
theorem absL_any : ∀ {l : List Value} {m : List AV}, absL l = some m → m.all AV.scalar = true ∧ ∀ env, VRs env m l
  | [], m, h => by simp [absL] at h; subst h; exact ⟨rfl, fun _ => .nil⟩
  | v :: l, m, h => by
    simp only [absL] at h
    split at h
    · rename_i x y hx hy
      simp only [Option.some.injEq] at h
      subst h
      obtain ⟨h1, h2⟩ := absS_any hx
      obtain ⟨h3, h4⟩ := absL_any hy
      exact ⟨by simp [h1, h3], fun env => .cons (h2 env) (h4 env)⟩
    · cases h
theorem absV_any {v : Value} {a : AV} (h : absV v = some a) (env : Env) : VR env a v := by
  unfold absV at h
  split at h
  · rename_i cs
    obtain ⟨l, hl, rfl⟩ := Option.map_eq_some_iff.1 h
    obtain ⟨h1, h2⟩ := absL_any hl
    simpa using VR.agg (h2 env) h1
  · rename_i cs
    split at h
    · rename_i he
      simp only [Option.some.injEq] at h
      subst h
      have : cs = #[] := by simpa using he
      subst this
      exact .tuple .nil
    · cases h
  · exact (absS_any h).2 env
theorem run_zero {t : TypeId} {z : AV} (h : aZero P t = some z) : ∃ Z, (∀ w, (zeroValue t).run P w = .ok Z w) ∧ ∀ env, VR env z Z := by
  unfold aZero at h
  cases hi : P.info? t with
  | none => simp [hi] at h
  | some i =>
    simp only [hi] at h
    cases hz : i.zero with
    | none => simp [hz] at h
    | some Z =>
      simp only [hz] at h
      exact ⟨Z, fun w => by simp [zeroValue, run_info hi, hz], fun env => absV_any h env⟩

theorem VR.agg_inv {env : Env} {l : List AV} {V : Value} (h : VR env (.agg l) V) : ∃ L : List Value, V = .agg L.toArray ∧ VRs env l L ∧ l.all AV.scalar = true := by
  cases h with
  | agg h hs => exact ⟨_, rfl, h, hs⟩

theorem VRs.take {env : Env} {l : List AV} {L : List Value} (h : VRs env l L) (n : Nat) : VRs env (l.take n) (L.take n) := by
  refine .of_get (by simp [h.length]) fun i v V hv hV => ?_
  rw [List.getElem?_take] at hv hV
  split at hv
  · rename_i hi
    rw [if_pos hi] at hV
    obtain ⟨V', hV', hr⟩ := h.get hv
    rw [hV] at hV'; cases hV'
    exact hr
  · cases hv
theorem VRs.drop {env : Env} {l : List AV} {L : List Value} (h : VRs env l L) (n : Nat) : VRs env (l.drop n) (L.drop n) := by
  refine .of_get (by simp [h.length]) fun i v V hv hV => ?_
  rw [List.getElem?_drop] at hv hV
  obtain ⟨V', hV', hr⟩ := h.get hv
  rw [hV] at hV'; cases hV'
  exact hr
theorem all_take {l : List AV} {n : Nat} (h : l.all AV.scalar = true) : (l.take n).all AV.scalar = true := by
  rw [List.all_eq_true] at *
  exact fun x hx => h x (List.mem_of_mem_take hx)
theorem all_drop {l : List AV} {n : Nat} (h : l.all AV.scalar = true) : (l.drop n).all AV.scalar = true := by
  rw [List.all_eq_true] at *
  exact fun x hx => h x (List.mem_of_mem_drop hx)

theorem run_part {env : Env} {t : TypeId} {l : List AV} {L : List Value} {off : Nat} {v : AV} (h : aPart P t l off = some v) (hl : VRs env l L) (hs : l.all AV.scalar = true) :
    ∃ V, (∀ w, (part t L.toArray off).run P w = .ok V w) ∧ VR env v V := by
  unfold aPart at h
  split at h
  · rename_i ha
    cases hn : aSize P t with
    | none => simp [hn] at h
    | some n =>
      simp only [hn] at h
      split at h
      · rename_i hle
        simp only [Option.some.injEq] at h
        subst h
        refine ⟨.agg ((L.drop off).take n).toArray, fun w => ?_, .agg ((hl.drop off).take n) (all_take (all_drop hs))⟩
        simp [part, run_isAgg (aIsAgg_known ha), ha, run_size hn]
      · cases h
  · rename_i ha
    split at h
    · rename_i hk
      obtain ⟨V, hV, hr⟩ := hl.get h
      refine ⟨V, fun w => ?_, hr⟩
      have ha' : aIsAgg P t = false := by simpa using ha
      simp [part, run_isAgg hk, ha', hV]
    · cases h

/-! ### rows of cells -/
theorem add_none (c o i : Nat) : (Addr.add ⟨c, o, none⟩ i) = ⟨c, o + i, none⟩ := by
  unfold Addr.add; split <;> simp_all

theorem run_loadCellsFrom (c o : Nat) : ∀ (L : List Value) (i : Nat) (acc : Array Value) (w : World), (∀ j, j < L.length → w.cell? ⟨c, o + (i + j), none⟩ = L[j]?) →
    (loadCellsFrom ⟨c, o, none⟩ i L.length acc).run P w = .ok (acc ++ L.toArray) w
  | [], i, acc, w, _ => by simp [loadCellsFrom]
  | v :: L, i, acc, w, h => by
    have h0 := h 0 (by simp)
    simp only [Nat.add_zero, List.getElem?_cons_zero] at h0
    have hr : (load (Addr.add ⟨c, o, none⟩ i)).run P w = .ok v w := by rw [add_none, run_load, h0]
    simp only [List.length_cons, loadCellsFrom, Sem.run_bind, hr, Result.andThen_ok]
    rw [run_loadCellsFrom c o L (i + 1) (acc.push v) w fun j hj => by
      have := h (j + 1) (by simp; omega)
      rw [List.getElem?_cons_succ] at this
      rw [← this]
      congr 2
      omega]
    simp

theorem run_loadCells {c o : Nat} {L : List Value} {w : World} {n : Nat} (hn : n = L.length) (h : ∀ j, j < L.length → w.cell? ⟨c, o + j, none⟩ = L[j]?) : (loadCells ⟨c, o, none⟩ n).run P w = .ok L.toArray w := by
  subst hn
  unfold loadCells
  rw [run_loadCellsFrom c o L 0 #[] w fun j hj => by simpa using h j hj]
  simp

/-- The cells of a block. -/
theorem BR.cell {B : Nat} {env : Env} {b c sh : Nat} {e : TypeId} {n : Nat} {cs : T AV} {op ro : Bool} (h : BR P B env w b c sh (.cells e n cs op ro)) {i : Nat} (hi : i < n) :
    ∃ v V, cs.get i = some v ∧ v.scalar = true ∧ w.cell? ⟨c, sh + i, none⟩ = some V ∧ VR env v V := by
  obtain ⟨arr, elem', fr, h1, h2, _⟩ := h
  obtain ⟨v, V, a1, a2, a3, a4⟩ := h2 i hi
  exact ⟨v, V, a1, a2, by simp [World.cell?, h1, a3], a4⟩

/-- A row that the interpreter reads is there. -/
theorem gets_run {B : Nat} {env : Env} {b c sh : Nat} {e : TypeId} {n : Nat} {cs : T AV} {op ro : Bool} (h : BR P B env w b c sh (.cells e n cs op ro)) {o m : Nat} (ho : o + m ≤ n) {l : List AV} (hg : cs.gets o m = some l) :
    ∃ L : List Value, VRs env l L ∧ l.all AV.scalar = true ∧ L.length = m ∧ ∀ j, j < L.length → w.cell? ⟨c, sh + o + j, none⟩ = L[j]? := by
  obtain ⟨hl, hget⟩ := T.gets_some hg
  have key : ∀ j, j < m → ∃ v V, l[j]? = some v ∧ v.scalar = true ∧ w.cell? ⟨c, sh + o + j, none⟩ = some V ∧ VR env v V := fun j hj => by
    obtain ⟨v, V, a1, a2, a3, a4⟩ := h.cell (i := o + j) (by omega)
    exact ⟨v, V, by rw [← hget j hj]; exact a1, a2, by rw [← a3]; congr 2; omega, a4⟩
  let L : List Value := (List.range m).map fun j => (w.cell? ⟨c, sh + o + j, none⟩).getD undef
  have hL : L.length = m := by simp [L]
  have hLg : ∀ j, j < m → w.cell? ⟨c, sh + o + j, none⟩ = L[j]? := fun j hj => by
    obtain ⟨v, V, _, _, a3, _⟩ := key j hj
    simp [L, hj, a3]
  refine ⟨L, .of_get (by omega) fun i v V hv hV => ?_, ?_, hL, fun j hj => hLg j (by omega)⟩
  · have hi : i < m := by rw [← hl]; exact (List.getElem?_eq_some_iff.1 hv).1
    obtain ⟨v', V', b1, _, b3, b4⟩ := key i hi
    rw [hv] at b1; cases b1
    rw [hLg i hi, hV] at b3; cases b3
    exact b4
  · rw [List.all_eq_true]
    intro x hx
    obtain ⟨i, hi, rfl⟩ := List.getElem_of_mem hx
    obtain ⟨v', V', b1, b2, _⟩ := key i (by omega)
    have : l[i]? = some l[i] := List.getElem?_eq_getElem hi
    rw [this] at b1; cases b1
    exact b2
end

section
variable {P : Program} {B : Nat} {w₀ : World} {K : List Nat} {env : Env} {h : AH} {s : Option (Nat × List AV)} {S : Option (Nat × List Value)} {w : World}
/-- A block that is there, and that a value leads to, stands somewhere. -/
theorem HS.at_ptr (hs : HS P B w₀ K env h s S w) {b o : Nat} {blk : ABlk} {V : Value} (hb : h.t.get b = some blk) (hd : blk ≠ .dead) (hv : VR env (.ptr (some (b, o))) V) :
    ∃ c sh, env.blk b = .at c sh ∧ V = .pointer (some ⟨c, sh + o, none⟩) ∧ BR P B env w b c sh blk := by
  cases hv with
  | ptr h' => exact ⟨_, _, h', rfl, hs.rel _ _ _ _ hb h'⟩
  | ptrD h' => rw [hs.dead _ h'] at hb; cases hb; exact absurd rfl hd

theorem run_load_var (hs : HS P B w₀ K env h s S w) {t : TypeId} {b o : Nat} {v : AV} {V : Value} (hl : aLoad P h t b o = some v) (hv : VR env (.ptr (some (b, o))) V) :
    ∃ a X, V = .pointer (some a) ∧ (loadVar t a).run P w = .ok X w ∧ VR env v X := by
  unfold aLoad at hl
  cases hb : h.t.get b with
  | none => simp [hb] at hl
  | some blk =>
    cases blk with
    | cells e n c op ro =>
      simp only [hb] at hl
      obtain ⟨cc, sh, hat, rfl, hbr⟩ := hs.at_ptr hb (by simp) hv
      refine ⟨⟨cc, sh + o, none⟩, ?_⟩
      split at hl
      · rename_i ha
        cases hm : aSize P t with
        | none => simp [hm] at hl
        | some m =>
          simp only [hm] at hl
          split at hl
          · rename_i hle
            obtain ⟨l, hg, rfl⟩ := Option.map_eq_some_iff.1 hl
            obtain ⟨L, h1, h2, h3, h4⟩ := gets_run hbr hle hg
            refine ⟨.agg L.toArray, rfl, ?_, .agg h1 h2⟩
            simp [loadVar, run_isAgg (aIsAgg_known ha), ha, run_size hm, run_loadCells h3.symm h4]
          · cases hl
      · rename_i ha
        split at hl
        · rename_i hk
          simp only [Bool.and_eq_true, decide_eq_true_eq] at hk
          obtain ⟨v', X, a1, a2, a3, a4⟩ := hbr.cell hk.2
          rw [hl] at a1; cases a1
          have ha' : aIsAgg P t = false := by simpa using ha
          exact ⟨X, rfl, by simp [loadVar, run_isAgg hk.1, ha', a3], a4⟩
        · cases hl
    | _ => simp [hb] at hl

end
end
end Go.Cx

/-
  EACH OPERATION THAT ONLY COMPUTES OR READS DOES WHAT THE INTERPRETER SAYS.
-/
namespace Go.Cx
noncomputable section
open Go Go.Conc

def EvR (env : Env) (ρ : Operand → Option AV) (a : Act) : Prop := ∀ x v, ρ x = some v → VR env v (a.eval x)

section
variable {P : Program} {B : Nat} {w₀ : World} {K : List Nat} {env : Env} {h h' : AH} {s : Option (Nat × List AV)} {S : Option (Nat × List Value)} {w : World} {ρ : Operand → Option AV} {a : Act} {o : Oper} {v : AV}

theorem retV_some {v' : Option AV} {r : ARes × AH} (e : retV h v' = some r) : ∃ v, v' = some v ∧ r = (.val v, h) := by
  unfold retV at e
  obtain ⟨v, hv, rfl⟩ := Option.map_eq_some_iff.1 e
  exact ⟨v, hv, rfl⟩

/-! ### equality -/
theorem VR.inj_int {k : IntKind} {n : Int} {V : Value} (h : VR env (.int k n) V) : V = .int k n := by cases h; rfl
theorem VR.inj_bool {b : Bool} {V : Value} (h : VR env (.bool b) V) : V = .bool b := by cases h; rfl
theorem VR.inj_str {l : List UInt8} {V : Value} (h : VR env (.str l) V) : V = .string ⟨l.toArray⟩ := by cases h; rfl

theorem beq_str (a b : List UInt8) : ((⟨a.toArray⟩ : ByteArray) == ⟨b.toArray⟩) = (a == b) := by
  rw [beq_toListBytes, ByteArray.toList_mk, ByteArray.toList_mk]

/-- It yields this, leaves the world, and lists nothing. -/
def Ret {α : Type} (P : Program) (s : Sem α) (v : α) : Prop := ∀ w, s.run P w = .ok v w ∧ ∀ es, s.events P w es = es
theorem Ret.pure {α : Type} (v : α) : Ret P (Pure.pure v : Sem α) v := fun w => ⟨by simp, fun es => by simp⟩
theorem Ret.bind {α β : Type} {x : Sem α} {f : α → Sem β} {v : α} {u : β} (h : Ret P x v) (h' : Ret P (f v) u) : Ret P (x >>= f) u := fun w =>
  ⟨by simp [(h w).1, (h' w).1], fun es => by simp [(h w).1, (h w).2, (h' w).2]⟩
theorem ret_und {t : TypeId} {d : TypeDesc} (hu : P.underlying t = some d) : Ret P (underlying t) d := fun w => ⟨run_und hu w, fun es => by simp [underlying, hu]⟩
theorem ret_info {t : TypeId} {i : TypeInfo} (hu : P.info? t = some i) : Ret P (typeInfo t) i := fun w => ⟨run_info hu w, fun es => by simp [typeInfo, hu]⟩
theorem ret_size {t : TypeId} {n : Nat} (hu : aSize P t = some n) : Ret P (sizeOf t) n := by
  unfold aSize at hu
  obtain ⟨i, hi, rfl⟩ := Option.map_eq_some_iff.1 hu
  exact .bind (ret_info hi) (.pure _)
theorem ret_isAgg {t : TypeId} (hk : aKnown P t = true) : Ret P (isAgg t) (aIsAgg P t) := by
  unfold aKnown at hk
  cases hu : P.underlying t with
  | none => simp [hu] at hk
  | some d =>
    refine .bind (ret_und hu) ?_
    unfold aIsAgg
    cases d <;> simp only [hu] <;> exact .pure _
theorem ret_zero {t : TypeId} {z : AV} (hz : aZero P t = some z) : ∃ Z, Ret P (zeroValue t) Z ∧ ∀ env, VR env z Z := by
  unfold aZero at hz
  cases hi : P.info? t with
  | none => simp [hi] at hz
  | some i =>
    simp only [hi] at hz
    cases hz' : i.zero with
    | none => simp [hz'] at hz
    | some Z =>
      simp only [hz'] at hz
      refine ⟨Z, .bind (ret_info hi) ?_, fun env => absV_any hz env⟩
      simp only [hz']
      exact .pure _
theorem ret_part {t : TypeId} {l : List AV} {L : List Value} {off : Nat} {v : AV} (h : aPart P t l off = some v) (hl : VRs env l L) (hs : l.all AV.scalar = true) :
    ∃ V, Ret P (part t L.toArray off) V ∧ VR env v V := by
  unfold aPart at h
  split at h
  · rename_i ha
    cases hn : aSize P t with
    | none => simp [hn] at h
    | some n =>
      simp only [hn] at h
      split at h
      · simp only [Option.some.injEq] at h
        subst h
        refine ⟨.agg (L.toArray.extract off (off + n)), .bind (ret_isAgg (aIsAgg_known ha)) ?_, ?_⟩
        · rw [if_pos ha]
          exact .bind (ret_size hn) (.pure _)
        · have : L.toArray.extract off (off + n) = ((L.drop off).take n).toArray := by simp
          rw [this]
          exact .agg ((hl.drop off).take n) (all_take (all_drop hs))
      · cases h
  · rename_i ha
    split at h
    · rename_i hk
      obtain ⟨V, hV, hr⟩ := hl.get h
      refine ⟨V, .bind (ret_isAgg hk) ?_, hr⟩
      rw [if_neg ha]
      have : L.toArray[off]? = some V := by simpa using hV
      simp only [this]
      exact .pure _
    · cases h

/-- A chain of comparisons. -/
theorem ret_forIn {f : TypeId → AV → AV → Option Bool} {α σ : Type} (g : α → TypeId × Option AV × Option AV) (F : α → σ → Sem (ForInStep σ)) (s0 s1 : σ) : ∀ (l : List α) (b : Bool),
    (∀ x ∈ l, ∀ t u v y, g x = (t, some u, some v) → f t u v = some y → Ret P (F x s0) (if y then .yield s0 else .done s1)) → aEqAll f (l.map g) = some b →
    Ret P (forIn l s0 F) (if b then s0 else s1)
  | [], b, _, h => by
    simp [aEqAll] at h; subst h
    simp only [List.forIn_nil, if_true]
    exact .pure _
  | x :: l, b, hf, h => by
    simp only [List.map_cons] at h
    rcases hx : g x with ⟨t, u, v⟩
    rw [hx] at h
    cases u with
    | none => simp [aEqAll] at h
    | some u =>
      cases v with
      | none => simp [aEqAll] at h
      | some v =>
        simp only [aEqAll] at h
        cases hy : f t u v with
        | none => simp [hy] at h
        | some y =>
          have hfx := hf x (by simp) t u v y hx hy
          rw [List.forIn_cons]
          cases y with
          | false =>
            simp [hy] at h
            subst h
            refine .bind hfx ?_
            exact .pure _
          | true =>
            simp only [hy] at h
            have hr := ret_forIn g F s0 s1 l b (fun x hx' => hf x (by simp [hx'])) h
            refine .bind hfx ?_
            exact hr
theorem ret_forIn' {f : TypeId → AV → AV → Option Bool} {α σ : Type} (p : α → Bool) (g : α → TypeId × Option AV × Option AV) (F : α → σ → Sem (ForInStep σ)) (s0 s1 : σ) : ∀ (l : List α) (b : Bool),
    (∀ x ∈ l, p x = true → ∀ t u v y, g x = (t, some u, some v) → f t u v = some y → Ret P (F x s0) (if y then .yield s0 else .done s1)) → (∀ x ∈ l, p x = false → Ret P (F x s0) (.yield s0)) →
    aEqAll f ((l.filter p).map g) = some b → Ret P (forIn l s0 F) (if b then s0 else s1)
  | [], b, _, _, h => by
    simp [aEqAll] at h; subst h
    simp only [List.forIn_nil, if_true]
    exact .pure _
  | x :: l, b, hf, hf', h => by
    rw [List.forIn_cons]
    cases hp : p x with
    | false =>
      rw [List.filter_cons, hp] at h
      refine .bind (hf' x (by simp) hp) ?_
      exact ret_forIn' p g F s0 s1 l b (fun x hx' => hf x (by simp [hx'])) (fun x hx' => hf' x (by simp [hx'])) (by simpa using h)
    | true =>
      rw [List.filter_cons, hp] at h
      simp only [if_true, List.map_cons] at h
      rcases hx : g x with ⟨t, u, v⟩
      rw [hx] at h
      cases u with
      | none => simp [aEqAll] at h
      | some u =>
        cases v with
        | none => simp [aEqAll] at h
        | some v =>
          simp only [aEqAll] at h
          cases hy : f t u v with
          | none => simp [hy] at h
          | some y =>
            have hfx := hf x (by simp) hp t u v y hx hy
            cases y with
            | false =>
              simp [hy] at h
              subst h
              refine .bind hfx ?_
              exact .pure _
            | true =>
              simp only [hy] at h
              refine .bind hfx ?_
              exact ret_forIn' p g F s0 s1 l b (fun x hx' => hf x (by simp [hx'])) (fun x hx' => hf' x (by simp [hx'])) h

theorem ret_eqStep {s : Sem Bool} {y : Bool} {σ : Type} {s0 s1 : σ} (h : Ret P s y) : Ret P (do let r ← s; if (!r) = true then pure (ForInStep.done s1) else pure (ForInStep.yield s0)) (if y then .yield s0 else .done s1) := by
  refine .bind h ?_
  cases y <;> exact .pure _

theorem aEq_ret : ∀ (d D : Nat) (t : TypeId) (x y : AV) (r : Bool) (X Y : Value), d ≤ D → aEq P d t x y = some r → VR env x X → VR env y Y → Ret P (Op.equalIn D t X Y) r
  | 0, _, _, _, _, _, _, _, _, h, _, _ => by simp [aEq] at h
  | d + 1, 0, _, _, _, _, _, _, hd, _, _, _ => by omega
  | d + 1, D + 1, t, x, y, r, X, Y, hd, h, hx, hy => by
    simp only [aEq] at h
    have ih := aEq_ret d D
    split at h
    · rename_i hu; rw [hx.inj_bool, hy.inj_bool]; simp at h; subst h; exact .bind (ret_und hu) (.pure _)
    · rename_i hu
      rw [hx.inj_int, hy.inj_int]
      split at h
      · rename_i e; subst e; simp at h; subst h
        refine .bind (ret_und hu) ?_
        simp only [if_true]
        exact .pure _
      · cases h
    · rename_i a b hu
      rw [hx.inj_str, hy.inj_str]; simp only [Option.some.injEq] at h; subst h
      refine .bind (ret_und hu) ?_
      simp only [beq_str]
      exact .pure _
    · rename_i b hu
      simp only [Option.some.injEq] at h; subst h
      cases hx with
      | ptrN =>
        refine .bind (ret_und hu) ?_
        cases hy <;> exact .pure _
    · rename_i p hu
      simp only [Option.some.injEq] at h; subst h
      cases hy with
      | ptrN =>
        refine .bind (ret_und hu) ?_
        cases hx <;> exact .pure _
    · rename_i hu; simp only [Option.some.injEq] at h; subst h; cases hx; cases hy; exact .bind (ret_und hu) (.pure _)
    · rename_i hu; simp only [Option.some.injEq] at h; subst h; cases hx; cases hy; exact .bind (ret_und hu) (.pure _)
    · rename_i hu; simp only [Option.some.injEq] at h; subst h; cases hx; cases hy; exact .bind (ret_und hu) (.pure _)
    · -- a struct
      rename_i fields xs ys hu
      split at h
      · cases h
      · rename_i hst
        obtain ⟨Xs, rfl, hxs, hxa⟩ := hx.agg_inv
        obtain ⟨Ys, rfl, hys, hya⟩ := hy.agg_inv
        simp only [Op.equalIn]
        refine .bind (ret_und hu) ?_
        simp only []
        refine .bind (v := P) (fun w => ⟨by simp, fun es => by simp⟩) ?_
        rw [if_neg hst]
        rw [← Array.forIn_toList]
        refine .bind (ret_forIn' (P := P) (s1 := (some false, ())) (fun f : Field => f.name != "_") _ _ _ _ _ (fun f _ hp t' u v y' hg hy' => ?_) (fun f _ hp => ?_) h) ?_
        · have hne : f.name ≠ "_" := by simpa using hp
          rw [if_pos hne]
          simp only [Prod.mk.injEq] at hg
          obtain ⟨rfl, h1, h2⟩ := hg
          obtain ⟨U, hU, hu'⟩ := ret_part h1 hxs hxa
          obtain ⟨V, hV, hv'⟩ := ret_part h2 hys hya
          exact .bind hU (.bind hV (ret_eqStep (ih _ _ _ _ _ _ (by omega) hy' hu' hv')))
        · have hne : ¬ f.name ≠ "_" := by simpa using hp
          rw [if_neg hne]
          exact .pure _
        · cases r <;> exact .pure _
    · -- an array
      rename_i len elem xs ys hu
      cases hn : aSize P elem with
      | none => simp [hn] at h
      | some n =>
        simp only [hn] at h
        obtain ⟨Xs, rfl, hxs, hxa⟩ := hx.agg_inv
        obtain ⟨Ys, rfl, hys, hya⟩ := hy.agg_inv
        simp only [Op.equalIn]
        refine .bind (ret_und hu) ?_
        simp only []
        refine .bind (ret_size hn) ?_
        rw [Std.Legacy.Range.forIn_eq_forIn_range']
        simp only [Std.Legacy.Range.size, Nat.sub_zero, Nat.add_sub_cancel, Nat.div_one]
        rw [← List.range_eq_range']
        refine .bind (ret_forIn (P := P) (s1 := (some false, ())) _ _ _ _ _ (fun i hi t' u v y' hg hy' => ?_) h) ?_
        · simp only [Prod.mk.injEq] at hg
          obtain ⟨rfl, h1, h2⟩ := hg
          obtain ⟨U, hU, hu'⟩ := ret_part h1 hxs hxa
          obtain ⟨V, hV, hv'⟩ := ret_part h2 hys hya
          exact .bind hU (.bind hV (ret_eqStep (ih _ _ _ _ _ _ (by omega) hy' hu' hv')))
        · cases r <;> exact .pure _
    · rename_i b hu
      simp only [Option.some.injEq] at h; subst h
      cases hx with
      | slN =>
        refine .bind (ret_und hu) ?_
        cases hy <;> exact .pure _
    · rename_i hu
      simp only [Option.some.injEq] at h; subst h
      cases hy with
      | slN =>
        refine .bind (ret_und hu) ?_
        cases hx <;> exact .pure _
    · rename_i b hu
      simp only [Option.some.injEq] at h; subst h
      cases hx with
      | mapN =>
        refine .bind (ret_und hu) ?_
        cases hy <;> exact .pure _
    · rename_i hu
      simp only [Option.some.injEq] at h; subst h
      cases hy with
      | mapN =>
        refine .bind (ret_und hu) ?_
        cases hx <;> exact .pure _
    · rename_i hu; simp only [Option.some.injEq] at h; subst h; cases hx; cases hy; exact .bind (ret_und hu) (.pure _)
    · rename_i hu; simp only [Option.some.injEq] at h; subst h; cases hx; cases hy; exact .bind (ret_und hu) (.pure _)
    · rename_i hu; simp only [Option.some.injEq] at h; subst h; cases hx; cases hy; exact .bind (ret_und hu) (.pure _)
    · cases h

end
end
end Go.Cx

/-
  OPERATIONS THAT ONLY COMPUTE OR READ.
-/
namespace Go.Cx
noncomputable section
open Go Go.Conc

/-- It yields this and leaves the world so; what it lists is harmless. -/
def Does {α : Type} (P : Program) (s : Sem α) (w : World) (v : α) (w' : World) : Prop := s.run P w = .ok v w' ∧ ∀ es e, e ∈ s.events P w es → e ∈ es ∨ EvOk e
section
variable {P : Program}
theorem Does.pure {α : Type} (v : α) (w : World) : Does P (Pure.pure v : Sem α) w v w := ⟨by simp, fun es e h => .inl (by simpa using h)⟩
theorem Does.bind {α β : Type} {x : Sem α} {f : α → Sem β} {w w' w'' : World} {v : α} {u : β} (h : Does P x w v w') (h' : Does P (f v) w' u w'') : Does P (x >>= f) w u w'' := by
  refine ⟨by simp [h.1, h'.1], fun es e he => ?_⟩
  rw [Sem.events_bind, h.1, Result.evThen_ok] at he
  rcases h'.2 _ _ he with he | he
  · exact h.2 _ _ he
  · exact .inr he
theorem Ret.does {α : Type} {s : Sem α} {v : α} (h : Ret P s v) (w : World) : Does P s w v w := ⟨(h w).1, fun es e he => .inl (by rw [(h w).2] at he; exact he)⟩
theorem Does.of_calm {α : Type} {s : Sem α} {w w' : World} {v : α} (h : s.run P w = .ok v w') (hc : Calm P s) : Does P s w v w' := ⟨h, fun es e he => hc.runT w es e he⟩
theorem Does.val {s : Sem Value} {w w' : World} {v : Value} (h : Does P s w v w') : Does P (do Pure.pure (Next.value (← s)) : Sem Next) w (.value v) w' := .bind h (.pure _ _)
theorem Does.unit {s : Sem Unit} {w w' : World} (h : Does P s w () w') : Does P (do s; Pure.pure Next.skip : Sem Next) w .skip w' := .bind h (.pure _ _)
theorem Ret.val {s : Sem Value} {v : Value} (h : Ret P s v) : Ret P (do Pure.pure (Next.value (← s)) : Sem Next) (.value v) := .bind h (.pure _)
theorem Ret.map {α β : Type} {s : Sem α} {v : α} {f : α → β} (h : Ret P s v) : Ret P (f <$> s) (f v) := .bind h (.pure _)
theorem ret_program : Ret P program P := fun w => ⟨by simp, fun es => by simp⟩

theorem Does.listed {a : Act} {o : Oper} {w w' : World} {n : Next} (h : Does P (execOp a.eval o) w n w') (fn : FuncId) : ∀ e ∈ listed P fn a o w, EvOk e := by
  intro e he
  rcases h.2 _ _ (mem_seen he) with h2 | h2
  · simp at h2
  · exact h2

variable {B : Nat} {w₀ : World} {K : List Nat} {env : Env} {h h' : AH} {s : Option (Nat × List AV)} {S : Option (Nat × List Value)} {w : World} {ρ : Operand → Option AV} {a : Act} {v : AV}

/-- Numbers. -/
theorem VR.idx {x : AV} {i : Int} {V : Value} (hx : VR env x V) (hi : aIdx x = some i) : ∃ k, V = .int k i := by
  cases hx <;> simp [aIdx] at hi
  subst hi
  exact ⟨_, rfl⟩
theorem ret_asInt (k : IntKind) (n : Int) : Ret P (asInt (.int k n)) n := fun w => ⟨by simp [asInt, asIntOf], fun es => by simp [asInt, asIntOf]⟩
theorem ret_asIntOf (k : IntKind) (n : Int) : Ret P (asIntOf (.int k n)) (k, n) := fun w => ⟨by simp [asIntOf], fun es => by simp [asIntOf]⟩
theorem ret_asBool (b : Bool) : Ret P (asBool (.bool b)) b := fun w => ⟨by simp [asBool], fun es => by simp [asBool]⟩

/-! ### binary operators -/
theorem ret_binInt {op : BinOp} {t : TypeId} {c : Bool} {k k' : IntKind} {a b : Int} {v : AV} (hh : aBin P op t c (.int k a) (.int k' b) = some v) : ∃ V, Ret P (binOp op t (.int k a) (.int k' b)) V ∧ ∀ env, VR env v V := by
  by_cases hs : op = .shl ∨ op = .shr
  · rcases hs with rfl | rfl <;> simp only [aBin] at hh <;> split at hh <;> first
      | (cases hh; done)
      | (rename_i hb
         simp only [Option.some.injEq] at hh; subst hh
         simp only [binOp, Op.shift, if_neg hb]
         exact ⟨_, .pure _, fun env => .int _ _⟩)
  · by_cases hk : k = k'
    · subst hk
      cases op <;> simp only [aBin, ne_eq, not_true_eq_false, if_false] at hh <;> first
        | (exact absurd (.inl rfl) hs)
        | (exact absurd (.inr rfl) hs)
        | (cases hh; done)
        | (simp only [Option.some.injEq] at hh; subst hh
           simp only [binOp, Op.intArith, Op.intBits, Op.intCmp, ne_eq, not_true_eq_false, if_false]
           exact ⟨_, .pure _, fun env => by constructor⟩)
        | (split at hh
           · cases hh
           · rename_i hb
             simp only [Option.some.injEq] at hh; subst hh
             simp only [binOp, Op.intDiv, ne_eq, not_true_eq_false, if_false, if_neg hb]
             exact ⟨_, .pure _, fun env => by constructor⟩)
    · exfalso
      cases op <;> simp [aBin, hk] at hh <;> first
        | (exact hs (.inl rfl))
        | (exact hs (.inr rfl))

theorem ret_binStr {op : BinOp} {t : TypeId} {c : Bool} {a b : List UInt8} {v : AV} (hh : aBin P op t c (.str a) (.str b) = some v) : ∃ V, Ret P (binOp op t (.string ⟨a.toArray⟩) (.string ⟨b.toArray⟩)) V ∧ ∀ env, VR env v V := by
  have e1 : ∀ l : List UInt8, (⟨l.toArray⟩ : ByteArray).toList = l := fun l => by rw [ByteArray.toList_mk]
  cases op <;> simp only [aBin] at hh <;> first
    | (cases hh; done)
    | (simp only [Option.some.injEq] at hh; subst hh
       simp only [binOp, Op.stringOp, e1]
       exact ⟨_, .pure _, fun env => by constructor⟩)
    | skip
  split at hh
  · rename_i hle
    simp only [Option.some.injEq] at hh; subst hh
    simp only [binOp, Op.stringOp]
    have hsz : ¬ (((⟨a.toArray⟩ : ByteArray).size + (⟨b.toArray⟩ : ByteArray).size : Nat) : Int) > IntKind.i64.max := by
      have h1 : (⟨a.toArray⟩ : ByteArray).size = a.length := by simp [ByteArray.size]
      have h2 : (⟨b.toArray⟩ : ByteArray).size = b.length := by simp [ByteArray.size]
      have h3 : IntKind.i64.max = 9223372036854775807 := by decide
      rw [h1, h2, h3]
      unfold strMax at hle
      omega
    rw [if_neg hsz]
    refine ⟨_, .pure _, fun env => ?_⟩
    have : ((⟨a.toArray⟩ : ByteArray) ++ ⟨b.toArray⟩) = ⟨(a ++ b).toArray⟩ := by
      apply ByteArray.ext
      simp [ByteArray.data_append]
    rw [this]
    exact .str _
  · cases hh

/-- Where two values are compared. -/
theorem ret_guard {op : BinOp} {t : TypeId} {x y : Operand} {X Y : Value} {u u' : AV} (hx : VR env u X) (hy : VR env u' Y)
    (hg : (op = .eql ∨ op = .neq) → aBin.aGuard P t (match x, y with | .const _, _ => true | _, .const _ => true | _, _ => false) u u' = true) : Ret P (eqGuard op t x y X Y) () := by
  unfold eqGuard
  by_cases ho : op = .eql ∨ op = .neq
  · have hg := hg ho
    rcases ho with rfl | rfl
    all_goals
      simp only [Bool.not_true, Bool.false_eq_true, if_false]
      cases hx <;> cases hy <;> first
        | exact .pure _
        | skip
    all_goals first
      | (simp only [aBin.aGuard] at hg
         cases x <;> cases y <;> simp at hg ⊢ <;> exact .pure _)
      | (simp only [aBin.aGuard] at hg
         refine .bind ret_program (.bind ret_program ?_)
         rw [if_pos (hg (by simp))]
         exact .pure _)
  · cases op <;> first
      | (exact absurd (.inl rfl) ho)
      | (exact absurd (.inr rfl) ho)
      | exact .pure _

theorem binOp_eql {t : TypeId} {X Y : Value} (h1 : ∀ k n k' n', ¬ (X = .int k n ∧ Y = .int k' n')) (h2 : ∀ a b, ¬ (X = .string a ∧ Y = .string b)) (h3 : ∀ k n k' n', ¬ (X = .float k n ∧ Y = .float k' n'))
    (h4 : ∀ k n m k' n' m', ¬ (X = .complex k n m ∧ Y = .complex k' n' m')) : binOp .eql t X Y = (do Pure.pure (.bool (← Op.equal t X Y))) ∧ binOp .neq t X Y = (do Pure.pure (.bool (!(← Op.equal t X Y)))) := by
  cases X <;> cases Y <;> first
    | (exact absurd ⟨rfl, rfl⟩ (h1 _ _ _ _))
    | (exact absurd ⟨rfl, rfl⟩ (h2 _ _))
    | (exact absurd ⟨rfl, rfl⟩ (h3 _ _ _ _))
    | (exact absurd ⟨rfl, rfl⟩ (h4 _ _ _ _ _ _))
    | exact ⟨rfl, rfl⟩

theorem ret_bin {op : BinOp} {t : TypeId} {x y : Operand} {X Y : Value} {u u' v : AV} {c : Bool} (hc : c = (match x, y with | .const _, _ => true | _, .const _ => true | _, _ => false)) (hh : aBin P op t c u u' = some v) (hx : VR env u X) (hy : VR env u' Y) :
    ∃ V, Ret P (do eqGuard op t x y X Y; binOp op t X Y) V ∧ VR env v V := by
  have hh0 := hh
  have intCase : ∀ {k k' : IntKind} {a b : Int}, u = .int k a → u' = .int k' b → ∃ V, Ret P (do eqGuard op t x y X Y; binOp op t X Y) V ∧ VR env v V := by
    rintro k k' a b rfl rfl
    obtain ⟨V, h1, h2⟩ := ret_binInt hh0
    have hgd : Ret P (eqGuard op t x y X Y) () := ret_guard hx hy fun _ => rfl
    rw [hx.inj_int, hy.inj_int] at hgd ⊢
    exact ⟨V, .bind hgd h1, h2 env⟩
  have strCase : ∀ {a b : List UInt8}, u = .str a → u' = .str b → ∃ V, Ret P (do eqGuard op t x y X Y; binOp op t X Y) V ∧ VR env v V := by
    rintro a b rfl rfl
    obtain ⟨V, h1, h2⟩ := ret_binStr hh0
    have hgd : Ret P (eqGuard op t x y X Y) () := ret_guard hx hy fun _ => rfl
    rw [hx.inj_str, hy.inj_str] at hgd ⊢
    exact ⟨V, .bind hgd h1, h2 env⟩
  have eqCase : (∀ k a k' b, ¬ (u = .int k a ∧ u' = .int k' b)) → (∀ a b, ¬ (u = .str a ∧ u' = .str b)) → (binOp .eql t X Y = (do Pure.pure (.bool (← Op.equal t X Y))) ∧ binOp .neq t X Y = (do Pure.pure (.bool (!(← Op.equal t X Y))))) := by
    intro n1 n2
    refine binOp_eql (fun k n k' n' e => ?_) (fun a b e => ?_) (fun k n k' n' e => ?_) fun k n m k' n' m' e => ?_
    · obtain ⟨rfl, rfl⟩ := e; cases hx; cases hy; exact n1 _ _ _ _ ⟨rfl, rfl⟩
    · obtain ⟨rfl, rfl⟩ := e
      cases hx; cases hy; exact n2 _ _ ⟨rfl, rfl⟩
    · obtain ⟨rfl, rfl⟩ := e; cases hx
    · obtain ⟨rfl, rfl⟩ := e; cases hx
  unfold aBin at hh
  split at hh
  · exact intCase rfl rfl
  · exact intCase rfl rfl
  · exact intCase rfl rfl
  · exact strCase rfl rfl
  · rename_i n1 n2
    split at hh
    · rename_i hg
      obtain ⟨b, hb, rfl⟩ := Option.map_eq_some_iff.1 hh
      refine ⟨.bool b, .bind (ret_guard hx hy fun _ => hc ▸ hg) ?_, .bool b⟩
      rw [(eqCase (fun k a k' b e => n1 k a k' b e.1 e.2) (fun a b e => n2 a b e.1 e.2)).1]
      exact .bind (aEq_ret eqDepth Op.maxDepth t _ _ _ _ _ (by decide) hb hx hy) (.pure _)
    · cases hh
  · rename_i n1 n2
    split at hh
    · rename_i hg
      obtain ⟨b, hb, rfl⟩ := Option.map_eq_some_iff.1 hh
      refine ⟨.bool !b, .bind (ret_guard hx hy fun _ => hc ▸ hg) ?_, .bool _⟩
      rw [(eqCase (fun k a k' b e => n1 k a k' b e.1 e.2) (fun a b e => n2 a b e.1 e.2)).2]
      exact .bind (aEq_ret eqDepth Op.maxDepth t _ _ _ _ _ (by decide) hb hx hy) (.pure _)
    · cases hh
  · cases hh

theorem ret_un {op : UnOp} {u v : AV} {X : Value} (hh : aUn op u = some v) (hx : VR env u X) : ∃ V, Ret P (Op.unary op X) V ∧ VR env v V := by
  unfold aUn at hh
  split at hh
  · simp only [Option.some.injEq] at hh; subst hh
    rw [hx.inj_int]
    exact ⟨_, .pure _, .int _ _⟩
  · simp only [Option.some.injEq] at hh; subst hh
    rw [hx.inj_int]
    exact ⟨_, .pure _, .int _ _⟩
  · simp only [Option.some.injEq] at hh; subst hh
    rw [hx.inj_bool]
    exact ⟨_, .pure _, .bool _⟩
  · cases hh

/-! ### parts -/
theorem ret_field {t : TypeId} {u v : AV} {X : Value} {f : Nat} (hh : aField P t u f = some v) (hx : VR env u X) : ∃ V, Ret P (Instr.field t X f) V ∧ VR env v V := by
  unfold aField at hh
  split at hh
  · rename_i fields cs hu
    split at hh
    · rename_i fd hf
      obtain ⟨L, rfl, hl, hs⟩ := hx.agg_inv
      obtain ⟨V, h1, h2⟩ := ret_part hh hl hs
      refine ⟨V, .bind (ret_und hu) ?_, h2⟩
      simp only [hf]
      exact .bind (.pure _) h1
    · cases hh
  · cases hh

theorem ret_index {t : TypeId} {u i v : AV} {X I : Value} (hh : aIndex P t u i = some v) (hx : VR env u X) (hi : VR env i I) : ∃ V, Ret P (Instr.index t X I) V ∧ VR env v V := by
  unfold aIndex at hh
  split at hh
  · rename_i n len elem cs hn hu
    obtain ⟨k, rfl⟩ := hi.idx hn
    obtain ⟨L, rfl, hl, hs⟩ := hx.agg_inv
    split at hh
    · rename_i sz hsz
      split at hh
      · rename_i hr
        obtain ⟨V, h1, h2⟩ := ret_part hh hl hs
        refine ⟨V, .bind (ret_asIntOf k n) (.bind (ret_und hu) ?_), h2⟩
        simp only [if_pos hr]
        exact .bind (ret_size hsz) h1
      · cases hh
    · cases hh
  · rename_i n s hn hu
    obtain ⟨k, rfl⟩ := hi.idx hn
    split at hh
    · rename_i hr
      split at hh
      · rename_i b hb
        simp only [Option.some.injEq] at hh; subst hh
        rw [hx.inj_str]
        refine ⟨.int .u8 b.toNat, .bind (ret_asIntOf k n) (.bind (ret_und hu) ?_), .int _ _⟩
        have : (⟨s.toArray⟩ : ByteArray)[n.toNat]? = some b := by
          have hlt : n.toNat < s.length := (List.getElem?_eq_some_iff.1 hb).1
          rw [ByteArray.getElem?_lt' _ _ (by simpa [ByteArray.size] using hlt)]
          have := (List.getElem?_eq_some_iff.1 hb).2
          rw [← this]
          rfl
        simp only [if_pos hr, this]
        exact .pure _
      · cases hh
    · cases hh
  · cases hh

end
end
end Go.Cx

/-
  ADDRESSES, SLICES, TUPLES.
-/
namespace Go.Cx
noncomputable section
open Go Go.Conc
section
variable {P : Program} {B : Nat} {w₀ : World} {K : List Nat} {env : Env} {h h' : AH} {s : Option (Nat × List AV)} {S : Option (Nat × List Value)} {w : World} {ρ : Operand → Option AV} {a : Act} {v : AV}

theorem VR.ptr_inv {b o : Nat} {V : Value} (h : VR env (.ptr (some (b, o))) V) : ∃ ad, V = .pointer (some ad) ∧ ((∃ c sh, env.blk b = .at c sh ∧ ad = ⟨c, sh + o, none⟩) ∨ env.blk b = .dead) := by
  cases h with
  | ptr h => exact ⟨_, rfl, .inl ⟨_, _, h, rfl⟩⟩
  | ptrD h a => exact ⟨_, rfl, .inr h⟩
theorem VR.ptr_add {b o i : Nat} {ad : Addr} (h : (∃ c sh, env.blk b = .at c sh ∧ ad = ⟨c, sh + o, none⟩) ∨ env.blk b = .dead) : VR env (.ptr (some (b, o + i))) (.pointer (some (ad.add i))) := by
  rcases h with ⟨c, sh, h, rfl⟩ | h
  · rw [add_none, Nat.add_assoc]
    exact .ptr h
  · exact .ptrD h _

theorem ret_indexAddr {t : TypeId} {u i v : AV} {X I : Value} (hh : aIndexAddr P t u i = some v) (hx : VR env u X) (hi : VR env i I) : ∃ V, Ret P (Instr.indexAt t X I) V ∧ VR env v V := by
  unfold aIndexAddr at hh
  split at hh
  · rename_i n len elem b o hn hu
    obtain ⟨k, rfl⟩ := hi.idx hn
    obtain ⟨ad, rfl, had⟩ := hx.ptr_inv
    split at hh
    · rename_i sz hsz
      split at hh
      · rename_i hr
        simp only [Option.some.injEq] at hh; subst hh
        refine ⟨_, .bind (ret_asIntOf k n) (.bind (ret_und hu) ?_), VR.ptr_add had⟩
        simp only []
        refine .bind (v := (some ad, len, elem)) (.bind (.pure _) (.pure _)) (.bind (ret_und hu) ?_)
        simp only [if_pos hr]
        exact .bind (ret_size hsz) (.pure _)
      · cases hh
    · cases hh
  · rename_i n elem b o len cap op hn hu
    obtain ⟨k, rfl⟩ := hi.idx hn
    split at hh
    · rename_i sz hsz
      split at hh
      · rename_i hr
        simp only [Option.some.injEq] at hh; subst hh
        have key : ∀ (ad : Addr) (cp : Nat), X = .slice (some ad) len cp → VR env (.ptr (some (b, o + n.toNat * sz))) (.pointer (some (ad.add (n.toNat * sz)))) → ∃ V, Ret P (Instr.indexAt t X (.int k n)) V ∧ VR env (.ptr (some (b, o + n.toNat * sz))) V := by
          rintro ad cp rfl hv
          refine ⟨_, .bind (ret_asIntOf k n) (.bind (ret_und hu) ?_), hv⟩
          simp only []
          refine .bind (.pure _) (.bind (ret_und hu) ?_)
          simp only [if_pos hr]
          exact .bind (ret_size hsz) (.pure _)
        cases hx with
        | @sl _ _ _ _ c sh e _ ad h1 he ha hl =>
          refine key _ _ rfl ?_
          rcases ha with ha | rfl
          · omega
          · exact VR.ptr_add (.inl ⟨c, sh, h1, rfl⟩)
        | slD h1 ad cp hl hc => exact key _ _ rfl (VR.ptr_add (.inr h1))
      · cases hh
    · cases hh
  · cases hh

theorem ret_fieldAddr {t : TypeId} {u v : AV} {X : Value} {f : Nat} (hh : aFieldAddr P t u f = some v) (hx : VR env u X) : ∃ V, Ret P (Instr.fieldAt t X f) V ∧ VR env v V := by
  unfold aFieldAddr at hh
  split at hh
  · rename_i fields b o hu
    split at hh
    · rename_i fd hf
      split at hh
      · rename_i n hsz
        simp only [Option.some.injEq] at hh; subst hh
        obtain ⟨ad, rfl, had⟩ := hx.ptr_inv
        refine ⟨_, .bind (ret_und hu) ?_, VR.ptr_add had⟩
        simp only [hf]
        refine .bind (v := ad) (.pure _) (.bind (v := ad.add fd.offset) (.bind (ret_size hsz) ?_) (.pure _))
        rw [if_neg (by omega)]
        exact .pure _
      · cases hh
    · cases hh
  · cases hh

/-! ### bounds -/
def OR (env : Env) : Option AV → Option Value → Prop
  | none, none => True
  | some v, some V => VR env v V
  | _, _ => False

theorem ret_bound {v : Option AV} {V : Option Value} {d y i y' : Nat} {c : BoundsCode} (hh : aBound v d y = some i) (hv : OR env v V) (hy : y ≤ y') : (v = none → i = d) ∧ (∀ u, v = some u → i ≤ y) ∧ ∀ u U, v = some u → V = some U → Ret P (Instr.sliceBound U y' c) i := by
  unfold aBound at hh
  split at hh
  · simp only [Option.some.injEq] at hh; subst hh
    exact ⟨fun _ => rfl, fun u h => by simp at h, fun u U h => by simp at h⟩
  · rename_i k n
    split at hh
    · rename_i hr
      simp only [Option.some.injEq] at hh; subst hh
      refine ⟨fun h => by simp at h, fun u h => by omega, fun u U h hU => ?_⟩
      subst hU
      simp only [Option.some.injEq] at h; subst h
      have hv : VR env (.int k n) U := hv
      rw [hv.inj_int]
      refine .bind (ret_asIntOf k n) ?_
      simp only []
      rw [if_pos ⟨hr.1, by omega⟩]
      exact .pure _
    · cases hh
  · cases hh

theorem ret_bounds {len cap C : Nat} {lo hi mx : Option AV} {LO HI MX : Option Value} {l hh m : Nat} {isS : Bool} (hb : aBounds len cap lo hi mx = some (l, hh, m)) (h1 : OR env lo LO) (h2 : OR env hi HI) (h3 : OR env mx MX) (hc : cap ≤ C) (hlen : len ≤ cap) :
    Ret P (Instr.sliceBounds isS len C LO HI MX) (l, hh, if mx.isSome then m else C) ∧ l ≤ hh ∧ hh ≤ m ∧ m ≤ cap ∧ (mx = none → m = cap) := by
  unfold aBounds at hb
  cases hm : aBound mx cap cap with
  | none => simp [hm] at hb
  | some m' =>
    obtain ⟨m1, m2, m3⟩ := ret_bound (P := P) (y' := C) (c := if isS then .slice3Acap else .slice3Alen) hm h3 hc
    simp only [hm] at hb
    split at hb
    · cases hb
    · rename_i hne
      cases hh' : aBound hi len (if mx.isSome then m' else cap) with
      | none => simp [hh'] at hb
      | some h' =>
        simp only [hh'] at hb
        cases hl' : aBound lo 0 h' with
        | none => simp [hl'] at hb
        | some l' =>
          simp only [hl', Option.some.injEq, Prod.mk.injEq] at hb
          obtain ⟨rfl, rfl, rfl⟩ := hb
          have hmcap : m' ≤ cap := by
            cases mx with
            | none => rw [m1 rfl]; exact Nat.le_refl _
            | some u => exact m2 u rfl
          obtain ⟨l1, l2, l3⟩ := ret_bound (P := P) (y' := h') (c := if MX.isSome then .slice3C else .sliceB) hl' h1 (Nat.le_refl _)
          have hlh : l' ≤ h' := by
            cases lo with
            | none => rw [l1 rfl]; omega
            | some u => exact l2 u rfl
          have hretl : ∀ (M : Nat) (c : BoundsCode), Ret P (match LO with | some v => do let l ← Instr.sliceBound v h' c; Pure.pure (l, h', M) | none => do let l ← Pure.pure 0; Pure.pure (l, h', M)) (l', h', M) := by
            intro M c
            obtain ⟨l1, l2, l3⟩ := ret_bound (P := P) (y' := h') (c := c) hl' h1 (Nat.le_refl _)
            cases lo with
            | none =>
              cases LO with
              | none => rw [l1 rfl]; exact .bind (.pure _) (.pure _)
              | some U => exact h1.elim
            | some u =>
              cases LO with
              | none => exact h1.elim
              | some U => exact .bind (l3 u U rfl rfl) (.pure _)
          cases mx with
          | none =>
            cases MX with
            | some U => exact h3.elim
            | none =>
              have hm' := m1 rfl
              subst hm'
              obtain ⟨b1, b2, b3⟩ := ret_bound (P := P) (y' := C) (c := if isS then .sliceAcap else .sliceAlen) hh' h2 (by simpa using hc)
              have hhm : h' ≤ m' := by
                cases hi with
                | none => rw [b1 rfl]; exact hlen
                | some u => simpa using b2 u rfl
              refine ⟨?_, hlh, hhm, hmcap, fun _ => rfl⟩
              refine .bind (v := C) (.pure _) ?_
              cases hi with
              | none =>
                cases HI with
                | none => rw [← b1 rfl]; exact .bind (.pure _) (hretl _ _)
                | some U => exact h2.elim
              | some u =>
                cases HI with
                | none => exact h2.elim
                | some U => exact .bind (b3 u U rfl rfl) (hretl _ _)
          | some mu =>
            cases MX with
            | none => exact h3.elim
            | some MU =>
              obtain ⟨b1, b2, b3⟩ := ret_bound (P := P) (y' := m') (c := .slice3B) hh' h2 (by simp)
              cases hi with
              | none => exact (hne _ rfl rfl).elim
              | some u =>
                cases HI with
                | none => exact h2.elim
                | some U =>
                  refine ⟨?_, hlh, by simpa using b2 u rfl, hmcap, fun e => by cases e⟩
                  exact .bind (m3 mu MU rfl rfl) (.bind (b3 u U rfl rfl) (hretl _ _))

theorem ret_slice {t : TypeId} {u v : AV} {X : Value} {lo hi mx : Option AV} {LO HI MX : Option Value} (hh : aSlice P t u lo hi mx = some v) (hx : VR env u X) (h1 : OR env lo LO) (h2 : OR env hi HI) (h3 : OR env mx MX) :
    ∃ V, Ret P (Instr.sliceAt t X LO HI MX) V ∧ VR env v V := by
  unfold aSlice at hh
  split at hh
  · rename_i n elem b o hu
    split at hh
    · rename_i l h m sz hb hsz
      simp only [Option.some.injEq] at hh; subst hh
      obtain ⟨hr, hlh, hhm, hmc, hmx⟩ := ret_bounds (P := P) (isS := false) hb h1 h2 h3 (Nat.le_refl _) (Nat.le_refl _)
      have e : (if mx.isSome then m else n) = m := by
        cases mx with
        | none => simp [hmx rfl]
        | some _ => rfl
      rw [e] at hr
      obtain ⟨ad, rfl, had⟩ := hx.ptr_inv
      refine ⟨.slice (some (if m = l then ad else ad.add (l * sz))) (h - l) (m - l), ?_, ?_⟩
      · refine .bind (ret_und hu) ?_
        simp only []
        exact .bind (v := ad) (.pure _) (.bind hr (.bind (ret_size hsz) (.pure _)))
      · rcases had with ⟨c, sh, had, rfl⟩ | had
        · have := VR.sl (env := env) (op := false) (e := 0) (o := o + l * sz) (len := h - l) (cap := m - l) (a := if m = l then ⟨c, sh + o, none⟩ else (⟨c, sh + o, none⟩ : Addr).add (l * sz)) had rfl ?_ (by omega)
          · simpa using this
          · by_cases e : m = l
            · left; omega
            · right; rw [if_neg e, add_none, Nat.add_assoc]
        · exact .slD had _ _ (by omega) (Nat.le_refl _)
    · cases hh
  · rename_i st hu
    split at hh
    · cases hh
    · rename_i hmx
      have hmx' : mx = none := by cases mx <;> simp at hmx ⊢
      subst hmx'
      have hMX : MX = none := by cases MX with | none => rfl | some _ => exact h3.elim
      subst hMX
      split at hh
      · rename_i l h m hb
        simp only [Option.some.injEq] at hh; subst hh
        obtain ⟨hr, hlh, hhm, hmc, hmx⟩ := ret_bounds (P := P) (isS := false) hb h1 h2 h3 (Nat.le_refl _) (Nat.le_refl _)
        rw [hx.inj_str]
        refine ⟨.string ⟨((st.drop l).take (h - l)).toArray⟩, ?_, .str _⟩
        refine .bind (ret_und hu) ?_
        simp only []
        refine .bind (ret_und hu) ?_
        simp only [Option.isSome_none, Bool.false_eq_true, if_false]
        have hsz : (⟨st.toArray⟩ : ByteArray).size = st.length := by simp [ByteArray.size]
        rw [hsz]
        refine .bind hr ?_
        have : (⟨st.toArray⟩ : ByteArray).extract l h = ⟨((st.drop l).take (h - l)).toArray⟩ := by
          apply ByteArray.ext
          simp [ByteArray.data_extract]
        simp only [this]
        exact .pure _
      · cases hh
  · rename_i elem p len cap op hu
    split at hh
    · rename_i l h m sz b o hb hsz
      simp only [Option.some.injEq] at hh; subst hh
      have key : ∀ (ad : Addr) (C : Nat), cap ≤ C → len ≤ cap → X = .slice (some ad) len C → VR env (.slice (some (b, o + l * sz)) (h - l) (m - l) (op && mx.isNone)) (.slice (if (if mx.isSome then m else C) = l then some ad else (some ad).map (·.add (l * sz))) (h - l) ((if mx.isSome then m else C) - l)) →
          ∃ V, Ret P (Instr.sliceAt t X LO HI MX) V ∧ VR env (.slice (some (b, o + l * sz)) (h - l) (m - l) (op && mx.isNone)) V := by
        rintro ad C hC hl rfl hv
        obtain ⟨hr, -⟩ := ret_bounds (P := P) (isS := true) hb h1 h2 h3 hC hl
        refine ⟨_, ?_, hv⟩
        refine .bind (ret_und hu) ?_
        simp only []
        refine .bind (ret_und hu) ?_
        simp only []
        exact .bind hr (.bind (ret_size hsz) (.pure _))
      cases hx with
      | @sl _ _ _ _ c sh e _ ad hat he ha hl =>
        obtain ⟨-, hlh, hhm, hmc, hmx⟩ := ret_bounds (P := P) (isS := true) (C := cap + e) hb h1 h2 h3 (by omega) hl
        refine key ad _ (by omega) hl rfl ?_
        have hadd : ∀ M, M ≤ cap + e → l ≤ M → M - l = 0 ∨ (if M = l then some ad else (some ad).map (·.add (l * sz))) = some ⟨c, sh + (o + l * sz), none⟩ := by
          intro M hM hlM
          by_cases e1 : M = l
          · left; omega
          · right
            rw [if_neg e1]
            rcases ha with ha | rfl
            · omega
            · simp only [Option.map_some, add_none, Nat.add_assoc]
        cases mx with
        | none =>
          simp only [Option.isSome_none, Bool.false_eq_true, if_false, Option.isNone_none, Bool.and_true]
          have hm := hmx rfl
          subst hm
          have := VR.sl (env := env) (op := op) (e := e) (o := o + l * sz) (len := h - l) (cap := m - l) (a := if m + e = l then ad else ad.add (l * sz)) hat he ?_ (by omega)
          · have e2 : m - l + e = m + e - l := by omega
            rw [e2] at this
            have e3 : (if m + e = l then some ad else (some ad).map (·.add (l * sz))) = some (if m + e = l then ad else ad.add (l * sz)) := by split <;> rfl
            rw [e3]
            exact this
          · rcases hadd (m + e) (Nat.le_refl _) (by omega) with h4 | h4
            · left; omega
            · right
              have e3 : (if m + e = l then some ad else (some ad).map (·.add (l * sz))) = some (if m + e = l then ad else ad.add (l * sz)) := by split <;> rfl
              rw [e3] at h4
              exact Option.some.inj h4
        | some mu =>
          simp only [Option.isSome_some, if_true, Option.isNone_some, Bool.and_false]
          have e3 : (if m = l then some ad else (some ad).map (·.add (l * sz))) = some (if m = l then ad else ad.add (l * sz)) := by split <;> rfl
          have := VR.sl (env := env) (op := false) (e := 0) (o := o + l * sz) (len := h - l) (cap := m - l) (a := if m = l then ad else ad.add (l * sz)) hat rfl ?_ (by omega)
          · rw [e3]; exact this
          · rcases hadd m (by omega) (by omega) with h4 | h4
            · left; omega
            · right; rw [e3] at h4; exact Option.some.inj h4
      | slD hd ad cp hl hc =>
        obtain ⟨-, hlh, hhm, hmc, hmx⟩ := ret_bounds (P := P) (isS := true) (C := cp) hb h1 h2 h3 hc hl
        refine key ad _ hc hl rfl ?_
        have e3 : ∀ M, (if M = l then some ad else (some ad).map (·.add (l * sz))) = some (if M = l then ad else ad.add (l * sz)) := fun M => by split <;> rfl
        rw [e3]
        refine .slD hd _ _ (by omega) ?_
        split <;> omega
    · rename_i l h m sz hb hsz
      simp only [Option.some.injEq] at hh; subst hh
      cases hx with
      | slN =>
        obtain ⟨hr, hlh, hhm, hmc, hmx⟩ := ret_bounds (P := P) (isS := true) hb h1 h2 h3 (Nat.le_refl _) (Nat.le_refl _)
        have e0 : l = 0 := by omega
        have e1 : h = 0 := by omega
        have e2 : m = 0 := by omega
        subst e0; subst e1; subst e2
        have e : (if mx.isSome then 0 else 0) = 0 := by split <;> rfl
        rw [e] at hr
        refine ⟨.slice none 0 0, ?_, .slN op⟩
        refine .bind (ret_und hu) ?_
        simp only []
        refine .bind (ret_und hu) ?_
        simp only []
        exact .bind hr (.bind (ret_size hsz) (.pure _))
    · cases hh
  · cases hh
end
end
end Go.Cx

/-
  THE INTERPRETER.
-/
namespace Go.Cx
noncomputable section
open Go Go.Conc

structure AS where
  t : T AV
  n : Nat
  h : AH
  s : Option (Nat × List AV)
  deriving Inhabited

inductive Ex where
  | normal
  | exit (id : Nat)
  | ret
  deriving DecidableEq, Inhabited

/-- What the interpreter is told of functions that it does not enter, and of those that are started. -/
structure Orc where
  call : FuncId → List AV → AH → Option (Nat × List AV) → Option (AV × AH)
  go : FuncId → List AV → Option (Nat × List AV)
  ext : Op → List AV → AH → Option (AV × AH)

def aRho (G : Nat) (t : T AV) : Operand → Option AV
  | .tmp i => some ((t.get i).getD (.tuple []))
  | .const v => absV v
  | .global g => if g < G then some (.ptr (some (g, 0))) else none
  | .func f => some (.func (.func f) [] [])

def AS.put (st : AS) (dst : Option Tmp) (v : AV) : Option AS :=
  match dst with
  | none => some st
  | some d => if d < st.n then some { st with t := st.t.set d v } else none

def aYield (ops : Array Oper) (t : T AV) (j : Nat) : Option Bool :=
  match (ops[j]?).bind (·.dst) with
  | some d => match t.get d with
    | some (.bool b) => some b
    | _ => none
  | none => none
def aWanted (ops : Array Oper) (o : Oper) (t : T AV) : Bool :=
  match o.guard with
  | none => true
  | some (j, want) => aYield ops t j == some want

/-- What a function hands back. -/
def aResult (P : Program) (st : AS) : ResultVar → Option AV
  | .tmp t => some ((st.t.get t).getD (.tuple []))
  | .cell a ty => match st.t.get a with
    | some (.ptr (some (b, o))) => aLoad P st.h ty b o
    | _ => none
def aResultAll (P : Program) (st : AS) : List ResultVar → Option (List AV)
  | [] => some []
  | r :: l => match aResult P st r, aResultAll P st l with
    | some v, some m => some (v :: m)
    | _, _ => none
def aResults (P : Program) (fn : Func) (st : AS) : Option AV :=
  match aResultAll P st fn.results.toList with
  | some [v] => some v
  | some l => some (.tuple l)
  | none => none

abbrev CallF := FuncId → List AV → AH → Option (Nat × List AV) → Option (AV × AH × Option (Nat × List AV))

/-- Does it only compute, or read, or make memory of its own? -/
def isFloat (o : Oper) : Bool :=
  match o.op with
  | .move _ | .assign _ | .pick .. | .alloc _ | .box .. | .build .. | .buildSlice .. | .load .. | .nilCheck _ | .binOp .. | .unOp .. | .convert .. | .makeInterface .. | .makeFunc ..
  | .makeMap .. | .makeSlice .. | .slice .. | .fieldAddr .. | .field .. | .indexAddr .. | .index .. | .lookup .. | .typeAssert .. | .extract .. => true
  | .call { callee := .builtin .len, .. } | .call { callee := .builtin .min, .. } | .call { callee := .builtin .max, .. } => true
  | _ => false
/-- Does it float, and keep to its kind? -/
def isFlo (P : Program) (o : Oper) : Bool :=
  match o.op with
  | .convert _ d _ => match P.underlying d with
    | some (.slice _) => false
    | _ => true
  | .assign _ => false
  | _ => isFloat o
def isCall (o : Oper) : Bool :=
  match o.op with
  | .call _ => true
  | _ => false
/-- An operation of the runtime's own. -/
def aExt (P : Program) (X : Orc) (ρ : Operand → Option AV) (o : Oper) (h : AH) : Option (AV × AH) :=
  if isFlo P o || !isCall o then none else match evalAll ρ o.op.operands.toList with
  | some l => X.ext o.op l h
  | none => none

/-- One operation. -/
def aOne (P : Program) (X : Orc) (call : CallF) (ops : Array Oper) (st : AS) (i : Nat) : Option AS :=
  match ops[i]? with
  | none => none
  | some o =>
    if aWanted ops o st.t then
      match aop P (aRho P.globals.size st.t) o st.h with
      | some (.val v, h) => AS.put { st with h := h } o.dst v
      | some (.skip, h) => AS.put { st with h := h } o.dst (.tuple [])
      | some (.call f args, h) => match call f args h st.s with
        | some (v, h', s') => AS.put { st with h := h', s := s' } o.dst v
        | none => none
      | some (.go f args, h) => match st.s, X.go f args with
        | none, some (b, vs) => match h.t.get b with
          | some (.chan 0) => AS.put { st with h := { h with t := h.t.set b (.chan 1) }, s := some (b, vs) } o.dst (.tuple [])
          | _ => none
        | _, _ => none
      | some (.recv b z, h) => match st.s with
        | some (b', v :: vs) => if b = b' then AS.put { st with h := h, s := some (b, vs) } o.dst (.tuple [v, .bool true]) else none
        | some (b', []) => if b = b' then AS.put { st with h := { h with t := h.t.set b (.chan 2) }, s := none } o.dst (.tuple [z, .bool false]) else none
        | none => none
      | none => match aExt P X (aRho P.globals.size st.t) o st.h with
        | some (v, h) => AS.put { st with h := h } o.dst v
        | none => none
    else AS.put st o.dst (.tuple [])

def aText (P : Program) (X : Orc) (call : CallF) (ops : Array Oper) : List Nat → AS → Option AS
  | [], st => some st
  | i :: l, st => match aOne P X call ops st i with
    | some st' => aText P X call ops l st'
    | none => none

/-! ### a region whose order is open -/
/-- Does it look into memory? -/
def isRead (o : Oper) : Bool :=
  match o.op with
  | .load .. | .lookup .. | .convert .. => true
  | .call { callee := .builtin .len, .. } => true
  | _ => false
/-- Does it make a block? -/
def isMake (o : Oper) : Bool :=
  match o.op with
  | .alloc _ | .box .. | .buildSlice .. | .makeMap .. | .makeSlice .. => true
  | _ => false
def edges (o : Oper) : List Nat := (o.after.toList.filter fun e => Region.binds .any e).map (·.on)
def readyIn (done : List Bool) (o : Oper) : Bool := (edges o).all fun j => done.getD j false
/-- All that float and are ready, in their order. -/
def floats (P : Program) : List Oper → Nat → List Bool → List Nat × List Bool
  | [], _, done => ([], done)
  | o :: l, i, done =>
    if !done.getD i true && isFlo P o && readyIn done o then
      let (r, d) := floats P l (i + 1) (done.set i true)
      (i :: r, d)
    else floats P l (i + 1) done
/-- The others that are ready. -/
def chains (P : Program) : List Oper → Nat → List Bool → List Nat
  | [], _, _ => []
  | o :: l, i, done => if !done.getD i true && !isFlo P o && readyIn done o then i :: chains P l (i + 1) done else chains P l (i + 1) done
/-- Which come before an operation, as the bits of a number. -/
def maskOf (m : T Nat) : List Nat → Nat
  | [] => 0
  | e :: l => Nat.lor (Nat.lor (2 ^ e) ((m.get e).getD 0)) (maskOf m l)
def masks : List Oper → Nat → T Nat → T Nat
  | [], _, m => m
  | o :: l, j, m => masks l (j + 1) (m.set j (maskOf m (edges o)))
def comesBefore (m : T Nat) (i j : Nat) : Bool := ((m.get j).getD 0).testBit i
def tmpsOf (o : Oper) : List Tmp := o.op.operands.toList.filterMap fun | .tmp t => some t | _ => none
/-- Every temporary has one writer, which comes before its readers. -/
def regOk (P : Program) (ops : List Oper) (m : T Nat) : Bool :=
  ops.zipIdx.all fun (o, j) =>
    (!isFlo P o || o.dst.isSome) && ((edges o).all fun e => Nat.blt e j) &&
    (ops.zipIdx.all fun (o', i) => match o'.dst with
      | none => true
      | some t => (i == j || o.dst != some t) && (!(tmpsOf o).contains t || comesBefore m i j || (!isFlo P o' && comesBefore m j i))) &&
    (match o.guard with
      | none => true
      | some (g, _) => comesBefore m g j)
abbrev Stage := List Nat × Option (Nat × List Nat)
/-- The eager order, in stages: those that float; then one that does not, and which of those that floated may also come up behind it. -/
def stages (P : Program) (ops : List Oper) (m : T Nat) : Nat → List Nat → List Bool → Option (List Stage)
  | 0, _, _ => none
  | k + 1, old, done =>
    let f := floats P ops 0 done
    match chains P ops 0 f.2 with
    | [] => if f.2.all id then some [(f.1, none)] else none
    | [c] => (stages P ops m k (old ++ f.1) (f.2.set c true)).map ((f.1, some (c, (old ++ f.1).filter fun i => !comesBefore m i c)) :: ·)
    | _ => none
def stagesOf (P : Program) (ops : Array Oper) : Option (List Stage) :=
  if regOk P ops.toList (masks ops.toList 0 .nil) then stages P ops.toList (masks ops.toList 0 .nil) (ops.size + 1) [] (List.replicate ops.size false) else none
mutual
def eqv : AV → AV → Bool
  | .int j a, .int k b => j == k && a == b
  | .bool a, .bool b => a == b
  | .str a, .str b => a == b
  | .ptr a, .ptr b => a == b
  | .slice a l c o, .slice b l' c' o' => a == b && l == l' && c == c' && o == o'
  | .map a, .map b => a == b
  | .chan a, .chan b => a == b
  | .nilFunc, .nilFunc => true
  | .func (.func f) a b, .func (.func g) c d => f == g && eqvs a c && eqvs b d
  | .nilIface, .nilIface => true
  | .iface t a, .iface u b => t == u && eqv a b
  | .agg l, .agg m => eqvs l m
  | .tuple l, .tuple m => eqvs l m
  | .raw a, .raw b => decide (a = b)
  | _, _ => false
def eqvs : List AV → List AV → Bool
  | [], [] => true
  | a :: l, b :: m => eqv a b && eqvs l m
  | _, _ => false
end
def sameBlk : ABlk → ABlk → Bool
  | .cells e n c op ro, .cells e' n' c' op' ro' => e == e' && n == n' && op == op' && ro == ro' && (match c.gets 0 n, c'.gets 0 n with
    | some l, some l' => eqvs l l'
    | _, _ => false)
  | .map [] k, .map [] k' => k == k'
  | _, _ => false
def sameMade (h : AH) (blk : ABlk) : AV → AV → Bool
  | .ptr (some (_, 0)), .ptr (some (b, 0)) => match h.t.get b with
    | some blk' => sameBlk blk blk'
    | none => false
  | .slice (some (_, 0)) l c op, .slice (some (b, 0)) l' c' op' => l == l' && c == c' && op == op' && (match h.t.get b with
    | some blk' => sameBlk blk blk'
    | none => false)
  | .map (some _), .map (some b) => match h.t.get b with
    | some blk' => sameBlk blk blk'
    | none => false
  | _, _ => false
/-- What floated would come out so still. -/
def aStill (P : Program) (ops : Array Oper) (st : AS) (i : Nat) : Bool :=
  match ops[i]? with
  | some o => if aWanted ops o st.t then
      if isMake o then match o.dst, aop P (aRho P.globals.size st.t) o st.h with
        | some d, some (.val v, h') => match h'.t.get st.h.n, st.t.get d with
          | some blk, some v0 => sameMade st.h blk v v0
          | _, _ => false
        | _, _ => false
      else if isRead o then match o.dst, aop P (aRho P.globals.size st.t) o st.h with
        | some d, some (.val v, _) => match st.t.get d with
          | some v0 => eqv v v0
          | none => false
        | _, _ => false
      else true
    else true
  | none => false
def aDrawn (P : Program) (X : Orc) (call : CallF) (ops : Array Oper) : List Stage → AS → Option AS
  | [], _ => none
  | (fl, none) :: _, st => aText P X call ops fl st
  | (fl, some (c, again)) :: l, st => match aText P X call ops fl st with
    | none => none
    | some st1 => match aOne P X call ops st1 c with
      | none => none
      | some st2 => if again.all (aStill P ops st2) then aDrawn P X call ops l st2 else none

/-- A function, by its body. -/
def aFunc (P : Program) (X : Orc) (d : Code → AS → Option (Ex × AS)) : CallF := fun f args h s =>
  match X.call f args h s with
  | some (v, h') => some (v, h', s)
  | none => match P.funcs[f]? with
    | some fn => match fn.body with
      | some c => match d c { t := T.ofList args, n := args.length + (fn.ntmps - args.length), h, s } with
        | some (.exit _, _) => none
        | some (_, st) => (aResults P fn st).map fun v => (v, st.h, st.s)
        | none => none
      | none => none
    | none => none

def den (P : Program) (X : Orc) : Nat → Code → AS → Option (Ex × AS)
  | 0, _, _ => none
  | k + 1, c, st => match c with
    | .skip => some (.normal, st)
    | .label _ => some (.normal, st)
    | .ret => some (.ret, st)
    | .exit id => some (.exit id, st)
    | .seq a b => match den P X k a st with
      | some (.normal, st') => den P X k b st'
      | r => r
    | .cond c a b => match aRho P.globals.size st.t c with
      | some (.bool true) => den P X k a st
      | some (.bool false) => den P X k b st
      | _ => none
    | .block id b => match den P X k b st with
      | some (.exit j, st') => if j = id then some (.normal, st') else some (.exit j, st')
      | r => r
    | .loop b => match den P X k b st with
      | some (.normal, st') => den P X k (.loop b) st'
      | r => r
    | .scope b => den P X k b st
    | .region _ ops false => (aText P X (aFunc P X (den P X k)) ops (List.range ops.size) st).map ((.normal, ·))
    | .region _ ops true => match stagesOf P ops with
      | some sg => (aDrawn P X (aFunc P X (den P X k)) ops sg st).map ((.normal, ·))
      | none => none
    | _ => none

def runF (P : Program) (X : Orc) (k : Nat) : CallF := aFunc P X (den P X k)

end
end Go.Cx

