/-
  ENGINE 1. What one step of a goroutine may touch, and a judgement on the model's effect trees that bears it.
-/
import Derived.Conc.Own
import Derived.Conc.Listed
import Derived.Conc.Neutral
import Derived.Laws.Sem
import Derived.Laws.Strings
namespace Go.Proofs.Evz
open Go Go.Conc

/-- The blocks that are a goroutine's own, and the blocks that everybody only reads. -/
structure Foot where
  mine : Nat → Prop
  ro : Nat → Prop

/-- May write (n: the heap's size when the step began). -/
def Foot.may (F : Foot) (n b : Nat) : Prop := F.mine b ∨ n ≤ b
/-- May read. -/
def Foot.see (F : Foot) (n b : Nat) : Prop := F.may n b ∨ F.ro b
def Foot.grow (F : Foot) (n m : Nat) : Foot := { mine := fun b => F.mine b ∨ (n ≤ b ∧ b < m), ro := F.ro }

/-- An access that a step may list. -/
def EvOk (F : Foot) (n : Nat) (e : Event) : Prop :=
  match e.loc with
  | .cell a => F.see n a.block ∧ (e.write = true → F.may n a.block)
  | .obj r => F.see n r ∧ (e.write = true → F.may n r)
  | .mark m => Neutral m
  | _ => False

/-- .. or the name of an entry of the library's own (the trace keeps none of these). -/
def EvOkx (F : Foot) (n : Nat) (e : Event) : Prop := EvOk F n e ∨ ∃ f, e.loc = .mark (.extern f)

/-- The block that an access names is there. -/
def EvLow (m : Nat) (e : Event) : Prop :=
  match e.loc with
  | .cell a => a.block < m
  | .obj r => r < m
  | _ => True
theorem EvLow.mono {m m' : Nat} (h : m ≤ m') {e : Event} (he : EvLow m e) : EvLow m' e := by
  unfold EvLow at *
  split at he
  · exact Nat.lt_of_lt_of_le he h
  · exact Nat.lt_of_lt_of_le he h
  · trivial
theorem lt_of_get {α : Type} {l : Array α} {i : Nat} {x : α} (h : l[i]? = some x) : i < l.size := by
  rcases Nat.lt_or_ge i l.size with h' | h'
  · exact h'
  · rw [Array.getElem?_eq_none h'] at h; cases h
theorem cell_lt {w : World} {a : Addr} {v : Value} (h : w.cell? a = some v) : a.block < w.heap.size := by
  rcases Nat.lt_or_ge a.block w.heap.size with h' | h'
  · exact h'
  · unfold World.cell? at h
    rw [Array.getElem?_eq_none h'] at h
    simp at h

/-- What a step does to the world. -/
structure Diff (F : Foot) (n : Nat) (w w' : World) : Prop where
  os : w'.os = w.os
  output : w'.output = w.output
  tape : w'.tape = w.tape
  size : w.heap.size ≤ w'.heap.size
  block : ∀ b, ¬ F.may n b → w'.heap[b]? = w.heap[b]?

theorem Diff.refl (F : Foot) (n : Nat) (w : World) : Diff F n w w := ⟨rfl, rfl, rfl, Nat.le_refl _, fun _ _ => rfl⟩
theorem Diff.trans {F : Foot} {n : Nat} {a b c : World} (h : Diff F n a b) (h' : Diff F n b c) : Diff F n a c :=
  ⟨h'.os.trans h.os, h'.output.trans h.output, h'.tape.trans h.tape, Nat.le_trans h.size h'.size, fun k hk => (h'.block k hk).trans (h.block k hk)⟩

theorem diff_setCell (F : Foot) (n : Nat) (w : World) (a : Addr) (v : Value) (h : F.may n a.block) : Diff F n w (w.setCell a v) := by
  refine ⟨rfl, rfl, rfl, by simp [World.setCell], fun b hb => ?_⟩
  have hne : a.block ≠ b := fun e => hb (e ▸ h)
  simp [World.setCell, Array.getElem?_modify, hne]
theorem diff_push (F : Foot) (n : Nat) (w : World) (o : Obj) (hn : n ≤ w.heap.size) : Diff F n w { w with heap := w.heap.push o } := by
  refine ⟨rfl, rfl, rfl, by simp, fun b hb => ?_⟩
  have hlt : b < w.heap.size := by
    have : ¬ n ≤ b := fun h => hb (.inr h)
    omega
  simp [Array.getElem?_push, Nat.ne_of_lt hlt]
theorem diff_freeze (F : Foot) (n : Nat) (w : World) (a : Addr) (m : Nat) (h : F.may n a.block) : Diff F n w (w.freeze a m) := by
  unfold World.freeze
  split
  · exact .refl _ _ _
  · refine ⟨rfl, rfl, rfl, by simp, fun b hb => ?_⟩
    have hne : a.block ≠ b := fun e => hb (e ▸ h)
    simp [Array.getElem?_modify, hne]
theorem diff_setObj (F : Foot) (n : Nat) (w : World) (r : Nat) (o : Obj) (h : F.may n r) : Diff F n w { w with heap := w.heap.setIfInBounds r o } := by
  refine ⟨rfl, rfl, rfl, by simp, fun b hb => ?_⟩
  have hne : r ≠ b := fun e => hb (e ▸ h)
  simp [hne]
theorem diff_drawn (F : Foot) (n : Nat) (w : World) (d : Nat) : Diff F n w { w with drawn := d } := ⟨rfl, rfl, rfl, Nat.le_refl _, fun _ _ => rfl⟩

/-- A value of one cell. -/
def one : Value → Bool
  | .agg _ | .tuple _ => false
  | _ => true

/-- The judgement: run from w the tree comes to a value that meets Q, or to a panic that meets E; it touches what it may. -/
def Sat {α : Type} (P : Program) (F : Foot) (n : Nat) : Sem α → World → (α → World → Prop) → (Value → World → Prop) → Prop
  | .pure a, w, Q, _ => Q a w
  | .load _ a k, w, Q, E => ∃ v, w.cell? a = some v ∧ F.see n a.block ∧ Sat P F n (k v) w Q E
  | .store _ a v k, w, Q, E => one v = true ∧ (∃ v0, w.cell? a = some v0) ∧ w.frozen? a = false ∧ F.may n a.block ∧ Sat P F n k (w.setCell a v) Q E
  | .new o k, w, Q, E => Sat P F n (k w.heap.size) { w with heap := w.heap.push o } Q E
  | .shape r k, w, Q, E => Sat P F n (k (w.shape? r)) w Q E
  | .freeze a m k, w, Q, E => F.may n a.block ∧ Sat P F n k (w.freeze a m) Q E
  | .frozen a k, w, Q, E => Sat P F n (k (w.frozen? a)) w Q E
  | .getObj r k, w, Q, E => ∃ o, w.heap[r]? = some o ∧ (∀ c t f, o ≠ .cells c t f) ∧ F.see n r ∧ Sat P F n (k o) w Q E
  | .setObj r o k, w, Q, E => (∃ o', w.heap[r]? = some o' ∧ ∀ c t f, o' ≠ .cells c t f) ∧ F.may n r ∧ Sat P F n k { w with heap := w.heap.setIfInBounds r o } Q E
  | .choose q k, w, Q, E => if q.forced then Sat P F n (k 0) w Q E else ∀ t, Sat P F n (k (q.cut t)) { w with drawn := w.drawn + 1 } Q E
  | .sys _ _, _, _, _ => False
  | .program k, w, Q, E => Sat P F n (k P) w Q E
  | .mark m k, w, Q, E => (Neutral m ∨ ∃ f, m = .extern f) ∧ Sat P F n k w Q E
  | .halt (.panic v), w, _, E => E v w
  | .halt _, _, _, _ => False

/-- What a run comes to. -/
def Result.to {α : Type} (Q : α → World → Prop) (E : Value → World → Prop) : Result α → Prop
  | .ok a w => Q a w
  | .halt (.panic v) w => E v w
  | .halt _ _ => False

def Result.world {α : Type} : Result α → World
  | .ok _ w => w
  | .halt _ w => w

theorem sat_run {α : Type} {P : Program} {F : Foot} {n : Nat} (s : Sem α) : ∀ (w : World) (Q : α → World → Prop) (E : Value → World → Prop) (es : Array Event),
    Sat P F n s w Q E → n ≤ w.heap.size →
    ∃ es', (s.runT P w es).2 = es ++ es' ∧ (∀ e ∈ es', EvOkx F n e ∧ EvLow (Result.world (s.runT P w es).1).heap.size e) ∧ Diff F n w (Result.world (s.runT P w es).1) ∧ Result.to Q E (s.runT P w es).1 := by
  induction s with
  | pure a => exact fun w Q E es h _ => ⟨#[], by simp [Sem.runT], by simp, .refl _ _ _, h⟩
  | load m a k ih =>
    rintro w Q E es ⟨v, hv, hs, h⟩ hn
    simp only [Sem.runT, hv]
    obtain ⟨es', h1, h2, h3, h4⟩ := ih v w Q E (es.push ⟨.cell a, false, m == .atomic⟩) h hn
    refine ⟨#[⟨.cell a, false, m == .atomic⟩] ++ es', by rw [h1, Array.push_eq_append, Array.append_assoc], ?_, h3, h4⟩
    intro e he
    rcases Array.mem_append.1 he with he | he
    · obtain rfl : e = _ := by simpa using he
      exact ⟨.inl ⟨hs, by simp⟩, Nat.lt_of_lt_of_le (cell_lt hv) h3.size⟩
    · exact h2 e he
  | store m a v k ih =>
    rintro w Q E es ⟨ho, ⟨v0, hv⟩, hf, hs, h⟩ hn
    obtain ⟨es', h1, h2, h3, h4⟩ := ih (w.setCell a v) Q E (es.push ⟨.cell a, true, m == .atomic⟩) h (by simpa [World.setCell] using hn)
    have e : (Sem.store m a v k).runT P w es = k.runT P (w.setCell a v) (es.push ⟨.cell a, true, m == .atomic⟩) := by
      cases v <;> simp [one] at ho <;> (simp only [Sem.runT, hv, hf, Bool.false_eq_true, if_false])
    rw [e]
    refine ⟨#[⟨.cell a, true, m == .atomic⟩] ++ es', by rw [h1, Array.push_eq_append, Array.append_assoc], ?_, (diff_setCell F n w a v hs).trans h3, h4⟩
    intro x hx
    rcases Array.mem_append.1 hx with hx | hx
    · obtain rfl : x = _ := by simpa using hx
      exact ⟨.inl ⟨.inl hs, fun _ => hs⟩, Nat.lt_of_lt_of_le (cell_lt hv) ((diff_setCell F n w a v hs).trans h3).size⟩
    · exact h2 x hx
  | new o k ih =>
    intro w Q E es h hn
    obtain ⟨es', h1, h2, h3, h4⟩ := ih w.heap.size { w with heap := w.heap.push o } Q E es h (by simp; omega)
    exact ⟨es', h1, h2, (diff_push F n w o hn).trans h3, h4⟩
  | shape r k ih => exact fun w Q E es h hn => ih _ w Q E es h hn
  | freeze a m k ih =>
    rintro w Q E es ⟨hs, h⟩ hn
    obtain ⟨es', h1, h2, h3, h4⟩ := ih (w.freeze a m) Q E es h (Nat.le_trans hn (diff_freeze F n w a m hs).size)
    exact ⟨es', h1, h2, (diff_freeze F n w a m hs).trans h3, h4⟩
  | frozen a k ih => exact fun w Q E es h hn => ih _ w Q E es h hn
  | getObj r k ih =>
    rintro w Q E es ⟨o, ho, hc, hs, h⟩ hn
    obtain ⟨es', h1, h2, h3, h4⟩ := ih o w Q E (es.push ⟨.obj r, false, o.isChan⟩) h hn
    have e : (Sem.getObj r k).runT P w es = (k o).runT P w (es.push ⟨.obj r, false, o.isChan⟩) := by
      cases o <;> first | exact absurd rfl (hc _ _ _) | (simp only [Sem.runT, ho])
    rw [e]
    refine ⟨#[⟨.obj r, false, o.isChan⟩] ++ es', by rw [h1, Array.push_eq_append, Array.append_assoc], ?_, h3, h4⟩
    intro x hx
    rcases Array.mem_append.1 hx with hx | hx
    · obtain rfl : x = _ := by simpa using hx
      exact ⟨.inl ⟨hs, by simp⟩, Nat.lt_of_lt_of_le (lt_of_get ho) h3.size⟩
    · exact h2 x hx
  | setObj r o k ih =>
    rintro w Q E es ⟨⟨o', ho, hc⟩, hs, h⟩ hn
    obtain ⟨es', h1, h2, h3, h4⟩ := ih { w with heap := w.heap.setIfInBounds r o } Q E (es.push ⟨.obj r, true, o.isChan⟩) h (by simpa using hn)
    have e : (Sem.setObj r o k).runT P w es = k.runT P { w with heap := w.heap.setIfInBounds r o } (es.push ⟨.obj r, true, o.isChan⟩) := by
      cases o' <;> first | exact absurd rfl (hc _ _ _) | (simp only [Sem.runT, ho])
    rw [e]
    refine ⟨#[⟨.obj r, true, o.isChan⟩] ++ es', by rw [h1, Array.push_eq_append, Array.append_assoc], ?_, (diff_setObj F n w r o hs).trans h3, h4⟩
    intro x hx
    rcases Array.mem_append.1 hx with hx | hx
    · obtain rfl : x = _ := by simpa using hx
      exact ⟨.inl ⟨.inl hs, fun _ => hs⟩, Nat.lt_of_lt_of_le (lt_of_get ho) ((diff_setObj F n w r o hs).trans h3).size⟩
    · exact h2 x hx
  | choose q k ih =>
    intro w Q E es h hn
    by_cases hq : q.forced
    · simp only [Sat, hq, if_true] at h
      have e : (Sem.choose q k).runT P w es = (k 0).runT P w es := by simp only [Sem.runT, hq, if_true]
      rw [e]
      exact ih 0 w Q E es h hn
    · simp only [Sat, hq] at h
      have e : (Sem.choose q k).runT P w es = (k (q.cut (w.tape w.drawn q))).runT P { w with drawn := w.drawn + 1 } es := by simp only [Sem.runT, hq, Bool.false_eq_true, if_false]
      rw [e]
      obtain ⟨es', h1, h2, h3, h4⟩ := ih (q.cut (w.tape w.drawn q)) { w with drawn := w.drawn + 1 } Q E es (h _) hn
      exact ⟨es', h1, h2, (diff_drawn F n w _).trans h3, h4⟩
  | sys c k ih => exact fun w Q E es h _ => h.elim
  | program k ih => exact fun w Q E es h hn => ih _ w Q E es h hn
  | mark m k ih =>
    rintro w Q E es ⟨hm, h⟩ hn
    obtain ⟨es', h1, h2, h3, h4⟩ := ih w Q E (es.push ⟨.mark m, false, true⟩) h hn
    refine ⟨#[⟨.mark m, false, true⟩] ++ es', by simp only [Sem.runT]; rw [h1, Array.push_eq_append, Array.append_assoc], ?_, h3, h4⟩
    intro x hx
    rcases Array.mem_append.1 hx with hx | hx
    · obtain rfl : x = _ := by simpa using hx
      exact ⟨hm.imp id fun ⟨f, e⟩ => ⟨f, by rw [e]⟩, trivial⟩
    · exact h2 x hx
  | halt h =>
    intro w Q E es hh hn
    cases h <;> first | exact ⟨#[], by simp [Sem.runT], by simp, .refl _ _ _, hh⟩ | exact hh.elim

theorem sat_mono {α : Type} {P : Program} {F : Foot} {n : Nat} (s : Sem α) : ∀ {w : World} {Q Q' : α → World → Prop} {E E' : Value → World → Prop},
    Sat P F n s w Q E → (∀ a w, Q a w → Q' a w) → (∀ v w, E v w → E' v w) → Sat P F n s w Q' E' := by
  induction s with
  | pure a => exact fun h hq _ => hq _ _ h
  | load m a k ih => exact fun ⟨v, h1, h2, h3⟩ hq he => ⟨v, h1, h2, ih v h3 hq he⟩
  | store m a v k ih => exact fun ⟨h1, h2, h3, h4, h5⟩ hq he => ⟨h1, h2, h3, h4, ih h5 hq he⟩
  | new o k ih => exact fun h hq he => ih _ h hq he
  | shape r k ih => exact fun h hq he => ih _ h hq he
  | freeze a m k ih => exact fun ⟨h1, h2⟩ hq he => ⟨h1, ih h2 hq he⟩
  | frozen a k ih => exact fun h hq he => ih _ h hq he
  | getObj r k ih => exact fun ⟨o, h1, h2, h3, h4⟩ hq he => ⟨o, h1, h2, h3, ih o h4 hq he⟩
  | setObj r o k ih => exact fun ⟨h1, h2, h3⟩ hq he => ⟨h1, h2, ih h3 hq he⟩
  | choose q k ih =>
    intro w Q Q' E E' h hq he
    by_cases hf : q.forced
    · simp only [Sat, hf, if_true] at h ⊢
      exact ih _ h hq he
    · simp only [Sat, hf] at h ⊢
      exact fun t => ih _ (h t) hq he
  | sys c k ih => exact fun h _ _ => h
  | program k ih => exact fun h hq he => ih _ h hq he
  | mark m k ih => exact fun ⟨h1, h2⟩ hq he => ⟨h1, ih h2 hq he⟩
  | halt h =>
    intro w Q Q' E E' hh hq he
    cases h <;> first | exact he _ _ hh | exact hh

theorem sat_bind {α β : Type} {P : Program} {F : Foot} {n : Nat} (s : Sem α) (f : α → Sem β) : ∀ {w : World} {Q : β → World → Prop} {E : Value → World → Prop},
    Sat P F n s w (fun a w => Sat P F n (f a) w Q E) E → Sat P F n (s.bind f) w Q E := by
  induction s with
  | pure a => exact fun h => h
  | load m a k ih => exact fun ⟨v, h1, h2, h3⟩ => ⟨v, h1, h2, ih v h3⟩
  | store m a v k ih => exact fun ⟨h1, h2, h3, h4, h5⟩ => ⟨h1, h2, h3, h4, ih h5⟩
  | new o k ih => exact fun h => ih _ h
  | shape r k ih => exact fun h => ih _ h
  | freeze a m k ih => exact fun ⟨h1, h2⟩ => ⟨h1, ih h2⟩
  | frozen a k ih => exact fun h => ih _ h
  | getObj r k ih => exact fun ⟨o, h1, h2, h3, h4⟩ => ⟨o, h1, h2, h3, ih o h4⟩
  | setObj r o k ih => exact fun ⟨h1, h2, h3⟩ => ⟨h1, h2, ih h3⟩
  | choose q k ih =>
    intro w Q E h
    by_cases hf : q.forced
    · simp only [Sat, Sem.bind, hf, if_true] at h ⊢
      exact ih _ h
    · simp only [Sat, Sem.bind, hf] at h ⊢
      exact fun t => ih _ (h t)
  | sys c k ih => exact fun h => h
  | program k ih => exact fun h => ih _ h
  | mark m k ih => exact fun ⟨h1, h2⟩ => ⟨h1, ih h2⟩
  | halt h =>
    intro w Q E hh
    cases h <;> exact hh

theorem sat_bind' {α β : Type} {P : Program} {F : Foot} {n : Nat} {s : Sem α} {f : α → Sem β} {w : World} {Q : β → World → Prop} {E : Value → World → Prop}
    (h : Sat P F n s w (fun a w => Sat P F n (f a) w Q E) E) : Sat P F n (s >>= f) w Q E := sat_bind s f h

/-! ### The others' doing, and a judgement on goroutines that is closed under steps -/

/-- What the others may have done meanwhile. -/
structure Rely (F : Foot) (w w₁ : World) : Prop where
  os : w₁.os = w.os
  output : w₁.output = w.output
  tape : w₁.tape = w.tape
  size : w.heap.size ≤ w₁.heap.size
  block : ∀ b, F.mine b ∨ F.ro b → w₁.heap[b]? = w.heap[b]?

theorem Rely.refl (F : Foot) (w : World) : Rely F w w := ⟨rfl, rfl, rfl, Nat.le_refl _, fun _ _ => rfl⟩

/-- What a step of one's own does. -/
structure Guar (F : Foot) (w w' : World) (es : Array Event) : Prop where
  diff : Diff F w.heap.size w w'
  evs : ∀ e ∈ es, EvOk F w.heap.size e ∧ EvLow w'.heap.size e

theorem Guar.none (F : Foot) (w : World) : Guar F w w #[] := ⟨.refl _ _ _, by simp⟩

/-- A judgement on a goroutine with its blocks, in a world, that holds wherever it holds behind one step of the goroutine's own. -/
structure Closed (P : Program) (main : Bool) (W : Foot → Goroutine → World → Prop) : Prop where
  step : ∀ F g w, g.status = .running → (∀ w₁, Rely F w w₁ → ∃ g' w' es, stepG P main g w₁ = .go g' w' es ∧ Guar F w₁ w' es ∧ W (F.grow w₁.heap.size w'.heap.size) g' w') → W F g w

theorem grow_self (F : Foot) (n : Nat) : F.grow n n = F := by
  unfold Foot.grow
  have : (fun b => F.mine b ∨ (n ≤ b ∧ b < n)) = F.mine := by
    funext b; apply propext; constructor
    · rintro (h | h)
      · exact h
      · omega
    · exact .inl
  rw [this]

section
variable {P : Program} {main : Bool} {W : Foot → Goroutine → World → Prop}

/-- A step that leaves the world as it is and lists nothing. -/
theorem Closed.quiet (C : Closed P main W) {F : Foot} {fr fr' : Frame} {cs cs' : List Frame} {w : World}
    (hs : ∀ w, stepG P main (G fr cs) w = .go (G fr' cs') w) (h : ∀ w₁, Rely F w w₁ → W F (G fr' cs') w₁) : W F (G fr cs) w :=
  C.step _ _ _ rfl fun w₁ h₁ => ⟨_, _, _, hs w₁, Guar.none _ _, by rw [grow_self]; exact h w₁ h₁⟩
end
end Go.Proofs.Evz

/-
  ENGINE 2. The abstract heap, renaming, and what it says of a world.
-/
namespace Go.Proofs.Evz
open Go Go.Conc

/-! ### tries -/
inductive Trie (α : Type) where
  | nil
  | tip (a : α)
  | fork (l r : Trie α)

noncomputable def Trie.get {α : Type} (t : Trie α) : Nat → Option α :=
  @Trie.rec α (fun _ => Nat → Option α) (fun _ => none) (fun a k => @Bool.rec (fun _ => Option α) none (some a) (Nat.beq k 0))
    (fun _ _ gl gr k => @Bool.rec (fun _ => Option α) (gr (Nat.div k 2)) (gl (Nat.div k 2)) (Nat.beq (Nat.mod k 2) 0)) t

/-- A fork whose left (right) part is looked at first: so the kernel builds no tower of parts still to be reckoned. -/
noncomputable def Trie.forkL {α : Type} (x r : Trie α) : Trie α := @Trie.casesOn α (fun _ => Trie α) x (.fork .nil r) (fun a => .fork (.tip a) r) (fun y z => .fork (.fork y z) r)
noncomputable def Trie.forkR {α : Type} (l x : Trie α) : Trie α := @Trie.casesOn α (fun _ => Trie α) x (.fork l .nil) (fun a => .fork l (.tip a)) (fun y z => .fork l (.fork y z))
theorem Trie.forkL_eq {α : Type} (x r : Trie α) : forkL x r = .fork x r := by cases x <;> rfl
theorem Trie.forkR_eq {α : Type} (l x : Trie α) : forkR l x = .fork l x := by cases x <;> rfl

noncomputable def Trie.set {α : Type} (d : Nat) (a : Trie α) : Trie α → Nat → Trie α :=
  @Nat.rec (fun _ => Trie α → Nat → Trie α) (fun _ _ => a)
    (fun _ ih t k => @Trie.casesOn α (fun _ => Trie α) t
      (@Bool.rec (fun _ => Trie α) (@Bool.rec (fun _ => Trie α) (forkR .nil (ih .nil (Nat.div k 2))) (forkL (ih .nil (Nat.div k 2)) .nil) (Nat.beq (Nat.mod k 2) 0)) a (Nat.beq k 0))
      (fun b => @Bool.rec (fun _ => Trie α) (@Bool.rec (fun _ => Trie α) (forkR (.tip b) (ih .nil (Nat.div k 2))) (forkL (ih (.tip b) (Nat.div k 2)) .nil) (Nat.beq (Nat.mod k 2) 0)) a (Nat.beq k 0))
      (fun l r => @Bool.rec (fun _ => Trie α) (forkR l (ih r (Nat.div k 2))) (forkL (ih l (Nat.div k 2)) r) (Nat.beq (Nat.mod k 2) 0))) d

theorem Trie.get_nil {α : Type} (k : Nat) : (Trie.nil : Trie α).get k = none := rfl
theorem Trie.get_tip {α : Type} (k : Nat) (a : α) : (Trie.tip a).get k = if k = 0 then some a else none := by
  cases k <;> rfl
theorem Trie.get_fork {α : Type} (l r : Trie α) (k : Nat) : (Trie.fork l r).get k = if k % 2 = 0 then l.get (k / 2) else r.get (k / 2) := by
  show @Bool.rec (fun _ => Option α) (r.get (k / 2)) (l.get (k / 2)) (Nat.beq (k % 2) 0) = _
  by_cases h : k % 2 = 0
  · rw [if_pos h, h]; rfl
  · have h1 : k % 2 = 1 := by omega
    rw [if_neg h, h1]; rfl
theorem Trie.set_zero {α : Type} (a t : Trie α) (k : Nat) : Trie.set 0 a t k = a := rfl
def Trie.left {α : Type} : Trie α → Trie α
  | .nil => .nil
  | .tip b => .tip b
  | .fork l _ => l
def Trie.right {α : Type} : Trie α → Trie α
  | .fork _ r => r
  | _ => .nil
def Trie.isFork {α : Type} : Trie α → Bool
  | .fork _ _ => true
  | _ => false
theorem Trie.set_succ {α : Type} (d : Nat) (a t : Trie α) (k : Nat) : Trie.set (d + 1) a t k = if t.isFork = false ∧ k = 0 then a else if k % 2 = 0 then .fork (Trie.set d a t.left (k / 2)) t.right else .fork t.left (Trie.set d a t.right (k / 2)) := by
  have key : ∀ x y : Trie α, @Bool.rec (fun _ => Trie α) x y (Nat.beq (k % 2) 0) = if k % 2 = 0 then y else x := by
    intro x y
    by_cases h : k % 2 = 0
    · rw [if_pos h, h]; rfl
    · have h1 : k % 2 = 1 := by omega
      rw [if_neg h, h1]; rfl
  have key' : ∀ x y : Trie α, @Bool.rec (fun _ => Trie α) x y (Nat.beq (Nat.mod k 2) 0) = if k % 2 = 0 then y else x := key
  have key0 : ∀ x y : Trie α, @Bool.rec (fun _ => Trie α) x y (Nat.beq k 0) = if k = 0 then y else x := by
    intro x y
    cases k <;> rfl
  cases t with
  | nil =>
    refine (key0 _ _).trans ?_
    rw [key', forkL_eq, forkR_eq]
    simp only [Trie.isFork, true_and]; rfl
  | tip b =>
    refine (key0 _ _).trans ?_
    rw [key', forkL_eq, forkR_eq]
    simp only [Trie.isFork, true_and]; rfl
  | fork l r =>
    rw [if_neg (by simp [Trie.isFork])]
    exact (key _ _).trans (by rw [forkL_eq, forkR_eq]; rfl)
theorem Trie.get_parts {α : Type} (t : Trie α) (k : Nat) : t.get k = if k % 2 = 0 then t.left.get (k / 2) else t.right.get (k / 2) := by
  cases t with
  | nil => simp only [Trie.left, Trie.right, Trie.get_nil]; split <;> rfl
  | tip b =>
    simp only [Trie.left, Trie.right, Trie.get_nil, Trie.get_tip]
    by_cases h : k % 2 = 0
    · rw [if_pos h]
      by_cases h0 : k = 0
      · rw [if_pos h0, if_pos (by omega)]
      · rw [if_neg h0, if_neg (by omega)]
    · rw [if_neg h, if_neg (by omega)]
  | fork l r => exact Trie.get_fork l r k

def Trie.leaf {α : Type} : Option α → Trie α
  | some a => .tip a
  | none => .nil
theorem Trie.get_leaf {α : Type} (a : Option α) : (Trie.leaf a).get 0 = a := by cases a <;> rfl

theorem Trie.get_set {α : Type} : ∀ (d : Nat) (t : Trie α) (k k' : Nat) (a : Option α), k < 2 ^ d → k' < 2 ^ d → (Trie.set d (Trie.leaf a) t k).get k' = if k = k' then a else t.get k'
  | 0, t, k, k', a, hk, hk' => by
    have e : k = 0 := by simp at hk; exact hk
    have e' : k' = 0 := by simp at hk'; exact hk'
    subst e; subst e'
    rw [if_pos rfl, Trie.set_zero, Trie.get_leaf]
  | d + 1, t, k, k', a, hk, hk' => by
    have h2 : 2 ^ (d + 1) = 2 * 2 ^ d := by rw [Nat.pow_succ]; omega
    have hd : k / 2 < 2 ^ d := by omega
    have hd' : k' / 2 < 2 ^ d := by omega
    rw [Trie.set_succ]
    by_cases h0 : t.isFork = false ∧ k = 0
    · rw [if_pos h0]
      have hl : ∀ j, (Trie.leaf a).get j = if j = 0 then a else none := by
        intro j
        cases a with
        | none => simp [Trie.leaf, Trie.get_nil]
        | some x => rw [Trie.leaf, Trie.get_tip]
      have ht : k' ≠ 0 → t.get k' = none := by
        intro hne
        cases t with
        | nil => rfl
        | tip b => rw [Trie.get_tip, if_neg hne]
        | fork l r => exact absurd h0.1 (by simp [Trie.isFork])
      rw [hl, h0.2]
      by_cases e : k' = 0
      · rw [if_pos e, if_pos e.symm]
      · rw [if_neg e, if_neg (fun h => e h.symm), ht e]
    rw [if_neg h0, Trie.get_parts t k']
    by_cases h : k % 2 = 0
    · rw [if_pos h, Trie.get_fork]
      by_cases h' : k' % 2 = 0
      · rw [if_pos h', if_pos h', Trie.get_set d _ _ _ a hd hd']
        by_cases e : k = k'
        · rw [if_pos e, if_pos (by rw [e])]
        · rw [if_neg e, if_neg (by omega)]
      · rw [if_neg h', if_neg h', if_neg (by omega)]
    · rw [if_neg h, Trie.get_fork]
      by_cases h' : k' % 2 = 0
      · rw [if_pos h', if_pos h', if_neg (by omega)]
      · rw [if_neg h', if_neg h', Trie.get_set d _ _ _ a hd hd']
        by_cases e : k = k'
        · rw [if_pos e, if_pos (by rw [e])]
        · rw [if_neg e, if_neg (by omega)]

/-! ### renaming -/
structure Slot where
  blk : Nat
  off : Nat
  slack : Nat
abbrev Sub := Nat → Slot

def renA (σ : Sub) (a : Addr) : Addr := ⟨(σ a.block).blk, (σ a.block).off + a.off, none⟩

def ren (σ : Sub) : Value → Value
  | .pointer (some a) => .pointer (some (renA σ a))
  | .slice (some a) l c => .slice (some (renA σ a)) l (c + (σ a.block).slack)
  | .map (some r) => .map (some (σ r).blk)
  | .chan (some r) => .chan (some (σ r).blk)
  | .func fn fi ca => .func fn (fi.attach.map fun ⟨v, _⟩ => ren σ v) (ca.attach.map fun ⟨v, _⟩ => ren σ v)
  | .iface t v => .iface t (ren σ v)
  | .agg cs => .agg (cs.attach.map fun ⟨v, _⟩ => ren σ v)
  | .tuple vs => .tuple (vs.attach.map fun ⟨v, _⟩ => ren σ v)
  | v => v
termination_by v => SizeOf.sizeOf v

section
variable (σ : Sub)
@[simp] theorem ren_bool (b : Bool) : ren σ (.bool b) = .bool b := by simp [ren]
@[simp] theorem ren_int (k : IntKind) (n : Int) : ren σ (.int k n) = .int k n := by simp [ren]
@[simp] theorem ren_float (k : FloatKind) (n : Nat) : ren σ (.float k n) = .float k n := by simp [ren]
@[simp] theorem ren_complex (k : FloatKind) (n m : Nat) : ren σ (.complex k n m) = .complex k n m := by simp [ren]
@[simp] theorem ren_string (s : ByteArray) : ren σ (.string s) = .string s := by simp [ren]
@[simp] theorem ren_pointer (a : Addr) : ren σ (.pointer (some a)) = .pointer (some (renA σ a)) := by simp [ren]
@[simp] theorem ren_pointer_none : ren σ (.pointer none) = .pointer none := by simp [ren]
@[simp] theorem ren_slice (a : Addr) (l c : Nat) : ren σ (.slice (some a) l c) = .slice (some (renA σ a)) l (c + (σ a.block).slack) := by simp [ren]
@[simp] theorem ren_slice_none (l c : Nat) : ren σ (.slice none l c) = .slice none l c := by simp [ren]
@[simp] theorem ren_map (r : Nat) : ren σ (.map (some r)) = .map (some (σ r).blk) := by simp [ren]
@[simp] theorem ren_map_none : ren σ (.map none) = .map none := by simp [ren]
@[simp] theorem ren_chan (r : Nat) : ren σ (.chan (some r)) = .chan (some (σ r).blk) := by simp [ren]
@[simp] theorem ren_chan_none : ren σ (.chan none) = .chan none := by simp [ren]
@[simp] theorem ren_func (fn : Fn) (fi ca : Array Value) : ren σ (.func fn fi ca) = .func fn (fi.map (ren σ)) (ca.map (ren σ)) := by simp [ren]
@[simp] theorem ren_nilFunc : ren σ .nilFunc = .nilFunc := by simp [ren]
@[simp] theorem ren_iface (t : TypeId) (v : Value) : ren σ (.iface t v) = .iface t (ren σ v) := by simp [ren]
@[simp] theorem ren_nilIface : ren σ .nilIface = .nilIface := by simp [ren]
@[simp] theorem ren_agg (cs : Array Value) : ren σ (.agg cs) = .agg (cs.map (ren σ)) := by simp [ren]
@[simp] theorem ren_tuple (cs : Array Value) : ren σ (.tuple cs) = .tuple (cs.map (ren σ)) := by simp [ren]
@[simp] theorem ren_undef : ren σ undef = undef := by simp [undef]
end

theorem one_ren (σ : Sub) (v : Value) : one (ren σ v) = one v := by
  cases v with
  | pointer a => cases a <;> simp [one]
  | slice a l c => cases a <;> simp [one]
  | map r => cases r <;> simp [one]
  | chan r => cases r <;> simp [one]
  | _ => simp [one]

theorem cells_ren (σ : Sub) (v : Value) : (ren σ v).cells = v.cells.map (ren σ) := by
  cases v with
  | agg cs => simp [Value.cells]
  | pointer a => cases a <;> simp [Value.cells]
  | slice a l c => cases a <;> simp [Value.cells]
  | map r => cases r <;> simp [Value.cells]
  | chan r => cases r <;> simp [Value.cells]
  | _ => simp [Value.cells]

theorem renA_add (σ : Sub) (a : Addr) (n : Nat) : renA σ (a.add n) = (renA σ a).add n := by
  unfold Addr.add renA
  split
  · rfl
  · simp [Nat.add_assoc]

/-- The renaming of v hangs on ids below n alone. -/
def Sc (n : Nat) (v : Value) : Prop := ∀ σ σ' : Sub, (∀ i, i < n → σ i = σ' i) → ren σ v = ren σ' v

theorem Sc.mono {n m : Nat} {v : Value} (h : Sc n v) (hnm : n ≤ m) : Sc m v := fun σ σ' e => h σ σ' fun i hi => e i (Nat.lt_of_lt_of_le hi hnm)
theorem sc_pointer {n : Nat} {a : Addr} (h : a.block < n) : Sc n (.pointer (some a)) := fun σ σ' e => by simp [renA, e _ h]
theorem sc_slice {n : Nat} {a : Addr} {l c : Nat} (h : a.block < n) : Sc n (.slice (some a) l c) := fun σ σ' e => by simp [renA, e _ h]
theorem sc_map {n r : Nat} (h : r < n) : Sc n (.map (some r)) := fun σ σ' e => by simp [e _ h]
theorem sc_int (n : Nat) (k : IntKind) (x : Int) : Sc n (.int k x) := fun σ σ' _ => by simp
theorem sc_bool (n : Nat) (x : Bool) : Sc n (.bool x) := fun σ σ' _ => by simp
theorem sc_string (n : Nat) (x : ByteArray) : Sc n (.string x) := fun σ σ' _ => by simp
theorem sc_undef (n : Nat) : Sc n undef := fun σ σ' _ => by simp
theorem sc_agg {n : Nat} {cs : Array Value} (h : ∀ v ∈ cs, Sc n v) : Sc n (.agg cs) := fun σ σ' e => by
  simp only [ren_agg]; congr 1; exact Array.map_congr_left fun v hv => h v hv σ σ' e
theorem sc_tuple {n : Nat} {cs : Array Value} (h : ∀ v ∈ cs, Sc n v) : Sc n (.tuple cs) := fun σ σ' e => by
  simp only [ren_tuple]; congr 1; exact Array.map_congr_left fun v hv => h v hv σ σ' e
theorem sc_func {n : Nat} {fn : Fn} {fi ca : Array Value} (h : ∀ v ∈ fi, Sc n v) (h' : ∀ v ∈ ca, Sc n v) : Sc n (.func fn fi ca) := fun σ σ' e => by
  simp only [ren_func]; congr 1
  · exact Array.map_congr_left fun v hv => h v hv σ σ' e
  · exact Array.map_congr_left fun v hv => h' v hv σ σ' e
theorem sc_iface {n : Nat} {t : TypeId} {v : Value} (h : Sc n v) : Sc n (.iface t v) := fun σ σ' e => by simp [h σ σ' e]

theorem map_eq_mem {α β : Type} {f g : α → β} : ∀ {l : List α}, l.map f = l.map g → ∀ v ∈ l, f v = g v
  | [], _, _, hv => by cases hv
  | a :: l, h, v, hv => by
    simp only [List.map_cons, List.cons.injEq] at h
    cases hv with
    | head => exact h.1
    | tail _ hv => exact map_eq_mem h.2 v hv
theorem amap_eq_mem {α β : Type} {f g : α → β} {l : Array α} (h : l.map f = l.map g) : ∀ v ∈ l, f v = g v := by
  intro v hv
  have h' := congrArg Array.toList h
  simp only [Array.toList_map] at h'
  exact map_eq_mem h' v (by simpa using hv)
theorem Sc.agg {n : Nat} {cs : Array Value} (h : Sc n (.agg cs)) : ∀ v ∈ cs, Sc n v := fun v hv σ σ' e => by
  have := h σ σ' e
  simp only [ren_agg, Value.agg.injEq] at this
  exact amap_eq_mem this v hv
theorem Sc.tuple {n : Nat} {cs : Array Value} (h : Sc n (.tuple cs)) : ∀ v ∈ cs, Sc n v := fun v hv σ σ' e => by
  have := h σ σ' e
  simp only [ren_tuple, Value.tuple.injEq] at this
  exact amap_eq_mem this v hv
theorem Sc.func1 {n : Nat} {fn : Fn} {fi ca : Array Value} (h : Sc n (.func fn fi ca)) : ∀ v ∈ fi, Sc n v := fun v hv σ σ' e => by
  have := h σ σ' e
  simp only [ren_func, Value.func.injEq] at this
  exact amap_eq_mem this.2.1 v hv
theorem Sc.func2 {n : Nat} {fn : Fn} {fi ca : Array Value} (h : Sc n (.func fn fi ca)) : ∀ v ∈ ca, Sc n v := fun v hv σ σ' e => by
  have := h σ σ' e
  simp only [ren_func, Value.func.injEq] at this
  exact amap_eq_mem this.2.2 v hv
theorem Sc.iface {n : Nat} {t : TypeId} {v : Value} (h : Sc n (.iface t v)) : Sc n v := fun σ σ' e => by
  have := h σ σ' e
  simp only [ren_iface, Value.iface.injEq] at this
  exact this.2
theorem Sc.cells {n : Nat} {v : Value} (h : Sc n v) : ∀ c ∈ v.cells, Sc n c := by
  cases v <;> first | exact h.agg | (intro c hc; simp only [Value.cells, List.mem_toArray, List.mem_cons, List.not_mem_nil, or_false] at hc; exact hc ▸ h)

/-! ### the abstract heap -/
inductive AObj where
  | cells (t : TypeId) (cs : List Value) (grown ro : Bool)
  | map (es : List MapEntry) (clock : Nat)

abbrev HD : Nat := 17
abbrev AHeap := Trie AObj
noncomputable def AHeap.at (H : AHeap) (k : Nat) : Option AObj := Trie.get H k
noncomputable def AHeap.put (H : AHeap) (k : Nat) (o : Option AObj) : AHeap := Trie.set HD (Trie.leaf o) H k
theorem AHeap.at_put (H : AHeap) (k k' : Nat) (o : Option AObj) (hk : k < 2 ^ HD) (hk' : k' < 2 ^ HD) : (H.put k o).at k' = if k = k' then o else H.at k' := Trie.get_set HD H k k' o hk hk'

def renE (σ : Sub) (e : MapEntry) : MapEntry := { key := ren σ e.key, val := ren σ e.val, born := e.born }

/-- What an abstract object says of the world. -/
def ObjR (P : Program) (σ : Sub) (nx : Nat) (F : Foot) (w : World) (id : Nat) : AObj → Prop
  | .cells t cs grown ro => ∃ c fr, w.heap[(σ id).blk]? = some (.cells c t fr) ∧ (σ id).off + cs.length + (σ id).slack * P.cellsOf t ≤ c.size ∧
      (∀ i, i < cs.length → c[(σ id).off + i]? = (cs[i]?).map (ren σ)) ∧ (∀ i, i < c.size → ¬ (fr.1 ≤ i ∧ i < fr.2)) ∧
      (grown = false → (σ id).slack = 0) ∧ (∀ v ∈ cs, Sc nx v) ∧ (if ro then F.ro (σ id).blk else F.mine (σ id).blk)
  | .map es clock => w.heap[(σ id).blk]? = some (.map (es.map (renE σ)).toArray clock) ∧ (∀ e ∈ es, Sc nx e.key ∧ Sc nx e.val) ∧ F.mine (σ id).blk

structure HR (P : Program) (G : Nat) (σ : Sub) (H : AHeap) (nx : Nat) (F : Foot) (w : World) : Prop where
  live : ∀ id o, id < 2 ^ HD → H.at id = some o → id < nx ∧ ObjR P σ nx F w id o
  inj : ∀ id id' o o', id < 2 ^ HD → id' < 2 ^ HD → H.at id = some o → H.at id' = some o' → (σ id).blk = (σ id').blk → id = id'
  top : nx ≤ 2 ^ HD
  glob : G ≤ nx ∧ ∀ g, g < G → σ g = ⟨g, 0, 0⟩
  mine : ∀ b, F.mine b → b < w.heap.size
  ro : ∀ b, F.ro b → b < w.heap.size ∧ ¬ F.mine b

/-- The concrete blocks that the abstract heap speaks of. -/
def Img (σ : Sub) (H : AHeap) (b : Nat) : Prop := ∃ id o, id < 2 ^ HD ∧ H.at id = some o ∧ (σ id).blk = b

def Agree (σ σ' : Sub) (n : Nat) : Prop := ∀ i, i < n → σ i = σ' i
theorem Agree.refl (σ : Sub) (n : Nat) : Agree σ σ n := fun _ _ => rfl
theorem Agree.trans {σ σ' σ'' : Sub} {n m : Nat} (h : Agree σ σ' n) (h' : Agree σ' σ'' m) (hnm : n ≤ m) : Agree σ σ'' n :=
  fun i hi => (h i hi).trans (h' i (Nat.lt_of_lt_of_le hi hnm))

/-- What is kept of the blocks that the abstract heap does not speak of. -/
structure Keeps (σ : Sub) (H : AHeap) (F : Foot) (w : World) (σ' : Sub) (H' : AHeap) (F' : Foot) (w' : World) : Prop where
  size : w.heap.size ≤ w'.heap.size
  mine : ∀ b, F.mine b → F'.mine b
  ro : F'.ro = F.ro
  kept : ∀ b, F.mine b → ¬ Img σ H b → ¬ Img σ' H' b ∧ w'.heap[b]? = w.heap[b]?

theorem Keeps.trans {σ σ' σ'' : Sub} {H H' H'' : AHeap} {F F' F'' : Foot} {w w' w'' : World} (h : Keeps σ H F w σ' H' F' w') (h' : Keeps σ' H' F' w' σ'' H'' F'' w'') : Keeps σ H F w σ'' H'' F'' w'' :=
  ⟨Nat.le_trans h.size h'.size, fun b hb => h'.mine b (h.mine b hb), h'.ro.trans h.ro, fun b hb hi =>
    let ⟨h1, h2⟩ := h.kept b hb hi
    let ⟨h3, h4⟩ := h'.kept b (h.mine b hb) h1
    ⟨h3, h4.trans h2⟩⟩

section
variable {P : Program} {G : Nat} {σ : Sub} {H : AHeap} {nx : Nat} {F : Foot} {w : World}

theorem Keeps.refl : Keeps σ H F w σ H F w := ⟨Nat.le_refl _, fun _ h => h, rfl, fun _ _ h => ⟨h, rfl⟩⟩

theorem ObjR.mineRo {id : Nat} {o : AObj} (h : ObjR P σ nx F w id o) : F.mine (σ id).blk ∨ F.ro (σ id).blk := by
  cases o with
  | cells t cs grown ro =>
    obtain ⟨c, fr, _, _, _, _, _, _, h7⟩ := h
    cases ro
    · exact .inl (by simpa using h7)
    · exact .inr (by simpa using h7)
  | map es clock => exact .inl h.2.2

theorem HR.rely {w₁ : World} (h : HR P G σ H nx F w) (r : Rely F w w₁) : HR P G σ H nx F w₁ := by
  refine ⟨fun id o hid ho => ?_, h.inj, h.top, h.glob, fun b hb => Nat.lt_of_lt_of_le (h.mine b hb) r.size, fun b hb => ⟨Nat.lt_of_lt_of_le (h.ro b hb).1 r.size, (h.ro b hb).2⟩⟩
  obtain ⟨h1, h2⟩ := h.live id o hid ho
  refine ⟨h1, ?_⟩
  have e := r.block _ h2.mineRo
  cases o with
  | cells t cs grown ro =>
    obtain ⟨c, fr, h3, h4⟩ := h2
    exact ⟨c, fr, e.trans h3, h4⟩
  | map es clock => exact ⟨e.trans h2.1, h2.2⟩

theorem Keeps.rely {w₁ : World} (r : Rely F w w₁) : Keeps σ H F w σ H F w₁ :=
  ⟨r.size, fun _ h => h, rfl, fun b hb h => ⟨h, r.block b (.inl hb)⟩⟩

theorem ObjR.ext {id : Nat} {o : AObj} {σ' : Sub} {nx' : Nat} (h : ObjR P σ nx F w id o) (hid : id < nx) (ha : Agree σ σ' nx) (hn : nx ≤ nx') : ObjR P σ' nx' F w id o := by
  have e := ha id hid
  cases o with
  | cells t cs grown ro =>
    obtain ⟨c, fr, h1, h2, h3, h4, h5, h6, h7⟩ := h
    refine ⟨c, fr, e ▸ h1, e ▸ h2, fun i hi => ?_, h4, fun hg => e ▸ h5 hg, fun v hv => (h6 v hv).mono hn, e ▸ h7⟩
    rw [← e, h3 i hi]
    cases hc : cs[i]? with
    | none => rfl
    | some v => simp only [Option.map_some]; rw [h6 v (List.mem_of_getElem? hc) σ σ' ha]
  | map es clock =>
    obtain ⟨h1, h2, h3⟩ := h
    refine ⟨?_, fun x hx => ⟨(h2 x hx).1.mono hn, (h2 x hx).2.mono hn⟩, e ▸ h3⟩
    rw [← e, h1]
    congr 2
    have : es.map (renE σ) = es.map (renE σ') := List.map_congr_left fun x hx => by
      unfold renE; rw [(h2 x hx).1 σ σ' ha, (h2 x hx).2 σ σ' ha]
    rw [this]

theorem HR.ext {σ' : Sub} {nx' : Nat} (h : HR P G σ H nx F w) (ha : Agree σ σ' nx) (hn : nx ≤ nx') (ht : nx' ≤ 2 ^ HD) : HR P G σ' H nx' F w := by
  refine ⟨fun id o hid ho => ?_, fun id id' o o' hid hid' ho ho' he => ?_, ht, ⟨Nat.le_trans h.glob.1 hn, fun g hg => ?_⟩, h.mine, h.ro⟩
  · obtain ⟨h1, h2⟩ := h.live id o hid ho
    exact ⟨Nat.lt_of_lt_of_le h1 hn, h2.ext h1 ha hn⟩
  · have e1 := ha id (h.live id o hid ho).1
    have e2 := ha id' (h.live id' o' hid' ho').1
    exact h.inj id id' o o' hid hid' ho ho' (by rw [e1, e2]; exact he)
  · rw [← ha g (Nat.lt_of_lt_of_le hg h.glob.1)]; exact h.glob.2 g hg

theorem Keeps.ext {σ' : Sub} (h : HR P G σ H nx F w) (ha : Agree σ σ' nx) : Keeps σ H F w σ' H F w :=
  ⟨Nat.le_refl _, fun _ h => h, rfl, fun b _ hi => ⟨fun ⟨id, o, hid, ho, e⟩ => hi ⟨id, o, hid, ho, by rw [ha id (h.live id o hid ho).1]; exact e⟩, rfl⟩⟩

/-- The world may have turned in ways that do not touch what the abstract heap speaks of. -/
theorem HR.world {w' : World} {F' : Foot} (h : HR P G σ H nx F w) (hb : ∀ b, F.mine b ∨ F.ro b → w'.heap[b]? = w.heap[b]?) (hm : ∀ b, F.mine b → F'.mine b) (hr : F'.ro = F.ro)
    (hm' : ∀ b, F'.mine b → b < w'.heap.size) (hs : w.heap.size ≤ w'.heap.size) (hx : ∀ b, F'.ro b → ¬ F'.mine b) : HR P G σ H nx F' w' := by
  refine ⟨fun id o hid ho => ?_, h.inj, h.top, h.glob, hm', fun b hb => ⟨Nat.lt_of_lt_of_le (h.ro b (hr ▸ hb)).1 hs, hx b hb⟩⟩
  obtain ⟨h1, h2⟩ := h.live id o hid ho
  refine ⟨h1, ?_⟩
  have e := hb _ h2.mineRo
  cases o with
  | cells t cs grown ro =>
    obtain ⟨c, fr, h3, h4, h5, h6, h7, h8, h9⟩ := h2
    refine ⟨c, fr, e.trans h3, h4, h5, h6, h7, h8, ?_⟩
    cases ro
    · simpa using hm _ (by simpa using h9)
    · simpa [hr] using h9
  | map es clock => exact ⟨e.trans h2.1, h2.2.1, hm _ h2.2.2⟩

theorem HR.drawn (h : HR P G σ H nx F w) (d : Nat) : HR P G σ H nx F { w with drawn := d } :=
  h.world (fun _ _ => rfl) (fun _ h => h) rfl h.mine (Nat.le_refl _) fun b hb => (h.ro b hb).2
end
end Go.Proofs.Evz

/-
  ENGINE 3. Loads, stores, new blocks.
-/
namespace Go.Proofs.Evz
open Go Go.Conc

theorem sc_pointer_lt {n : Nat} {a : Addr} (h : Sc n (.pointer (some a))) : a.block < n := by
  have := h (fun _ => ⟨0, 0, 0⟩) (fun i => if i < n then ⟨0, 0, 0⟩ else ⟨1, 0, 0⟩) (fun i hi => by simp [hi])
  simp only [ren_pointer, renA, Value.pointer.injEq, Option.some.injEq, Addr.mk.injEq] at this
  by_cases e : a.block < n
  · exact e
  · simp [e] at this
theorem sc_slice_lt {n : Nat} {a : Addr} {l c : Nat} (h : Sc n (.slice (some a) l c)) : a.block < n := by
  have := h (fun _ => ⟨0, 0, 0⟩) (fun i => if i < n then ⟨0, 0, 0⟩ else ⟨1, 0, 0⟩) (fun i hi => by simp [hi])
  simp only [ren_slice, renA, Value.slice.injEq, Option.some.injEq, Addr.mk.injEq] at this
  by_cases e : a.block < n
  · exact e
  · simp [e] at this
theorem sc_map_lt {n r : Nat} (h : Sc n (.map (some r))) : r < n := by
  have := h (fun _ => ⟨0, 0, 0⟩) (fun i => if i < n then ⟨0, 0, 0⟩ else ⟨1, 0, 0⟩) (fun i hi => by simp [hi])
  simp only [ren_map, Value.map.injEq, Option.some.injEq] at this
  by_cases e : r < n
  · exact e
  · simp [e] at this

/-! ### the tree's own loads and stores -/
section
variable {P : Program} {F : Foot} {n : Nat}

theorem sat_loadCellsFrom (a : Addr) {Q : Array Value → World → Prop} {E : Value → World → Prop} {w : World} (hs : F.see n a.block) : ∀ (l : List Value) (i : Nat) (acc : Array Value),
    (∀ j, j < l.length → w.cell? (a.add (i + j)) = l[j]?) → Q (acc ++ l.toArray) w → Sat P F n (loadCellsFrom a i l.length acc) w Q E
  | [], i, acc, _, hq => by
    show Q acc w
    simpa using hq
  | v :: l, i, acc, hc, hq => by
    show Sat P F n (load (a.add i) >>= fun v => loadCellsFrom a (i + 1) l.length (acc.push v)) w Q E
    refine sat_bind' ⟨v, by simpa using hc 0 (by simp), ?_, ?_⟩
    · unfold Addr.add; split <;> exact hs
    · show Sat P F n (loadCellsFrom a (i + 1) l.length (acc.push v)) w Q E
      refine sat_loadCellsFrom a hs l (i + 1) (acc.push v) (fun j hj => ?_) ?_
      · have := hc (j + 1) (by simp; omega)
        simpa [Nat.add_assoc, Nat.add_comm 1 j] using this
      · simpa using hq

theorem sat_loadCells (a : Addr) {Q : Array Value → World → Prop} {E : Value → World → Prop} {w : World} (hs : F.see n a.block) (l : List Value) (m : Nat) (hm : m = l.length)
    (hc : ∀ j, j < l.length → w.cell? (a.add j) = l[j]?) (hq : Q l.toArray w) : Sat P F n (loadCells a m) w Q E := by
  subst hm
  exact sat_loadCellsFrom a hs l 0 #[] (by simpa using hc) (by simpa using hq)

/-- Cells written one behind the other. -/
def wr (c : Array Value) (k : Nat) : List Value → Array Value
  | [] => c
  | v :: vs => wr (c.setIfInBounds k v) (k + 1) vs

theorem wr_size : ∀ (vs : List Value) (c : Array Value) (k : Nat), (wr c k vs).size = c.size
  | [], _, _ => rfl
  | v :: vs, c, k => by rw [wr, wr_size vs]; simp

theorem wr_get : ∀ (vs : List Value) (c : Array Value) (k j : Nat), k + vs.length ≤ c.size → (wr c k vs)[j]? = if k ≤ j ∧ j < k + vs.length then vs[j - k]? else c[j]?
  | [], c, k, j, _ => by
    rw [wr, if_neg]
    simp only [List.length_nil]; omega
  | v :: vs, c, k, j, h => by
    simp only [List.length_cons] at h
    rw [wr, wr_get vs _ (k + 1) j (by simp; omega)]
    by_cases e : j = k
    · subst e
      rw [if_neg (by omega), if_pos (by simp)]
      have hlt : j < c.size := by omega
      simp [hlt]
    · by_cases hj : k + 1 ≤ j ∧ j < k + 1 + vs.length
      · rw [if_pos hj, if_pos (by simp; omega)]
        obtain ⟨d, hd⟩ : ∃ d, j - k = d + 1 := ⟨j - k - 1, by omega⟩
        rw [hd, List.getElem?_cons_succ]
        congr 1
        omega
      · rw [if_neg hj, if_neg (by simp; omega)]
        rw [Array.getElem?_setIfInBounds_ne (by omega)]

/-- The world with a block turned. -/
def _root_.Go.World.putB (w : World) (b : Nat) (o : Obj) : World := { w with heap := w.heap.setIfInBounds b o }

theorem setCell_putB {w : World} {a : Addr} {c : Array Value} {t : TypeId} {fr : Nat × Nat} (h : w.heap[a.block]? = some (.cells c t fr)) (hs : a.spot = none) (v : Value) :
    w.setCell a v = w.putB a.block (.cells (c.setIfInBounds a.off v) t fr) := by
  have hlt : a.block < w.heap.size := by
    rcases Nat.lt_or_ge a.block w.heap.size with h' | h'
    · exact h'
    · rw [Array.getElem?_eq_none h'] at h; cases h
  unfold World.setCell World.putB
  congr 1
  apply Array.ext_getElem?
  intro i
  rw [Array.getElem?_modify]
  by_cases e : a.block = i
  · subst e
    rw [if_pos rfl, h]
    simp [hs, hlt]
  · rw [if_neg e, Array.getElem?_setIfInBounds_ne e]

theorem putB_putB (w : World) (b : Nat) (o o' : Obj) : (w.putB b o).putB b o' = w.putB b o' := by
  unfold World.putB; simp

theorem putB_at {w : World} {b : Nat} {o o' : Obj} (h : w.heap[b]? = some o) : (w.putB b o').heap[b]? = some o' := by
  have hlt : b < w.heap.size := by
    rcases Nat.lt_or_ge b w.heap.size with h' | h'
    · exact h'
    · rw [Array.getElem?_eq_none h'] at h; cases h
  simp [World.putB, hlt]
theorem putB_ne {w : World} {b b' : Nat} {o' : Obj} (h : b ≠ b') : (w.putB b o').heap[b']? = w.heap[b']? := by
  simp [World.putB, Array.getElem?_setIfInBounds_ne h]
theorem putB_size (w : World) (b : Nat) (o : Obj) : (w.putB b o).heap.size = w.heap.size := by simp [World.putB]

theorem sat_storeCells {Q : Unit → World → Prop} {E : Value → World → Prop} {t : TypeId} {fr : Nat × Nat} (a : Addr) (hm : F.may n a.block) (hsp : a.spot = none) : ∀ (vs : List Value) (i : Nat) (w : World) (c : Array Value),
    w.heap[a.block]? = some (.cells c t fr) → a.off + i + vs.length ≤ c.size → (∀ j, j < c.size → ¬ (fr.1 ≤ j ∧ j < fr.2)) → (∀ v ∈ vs, one v = true) →
    Q () (w.putB a.block (.cells (wr c (a.off + i) vs) t fr)) → Sat P F n (storeCells a vs i) w Q E
  | [], i, w, c, hb, hsz, hf, ho, hq => by
    show Q () w
    have e : w.putB a.block (.cells c t fr) = w := by
      unfold World.putB
      have : w.heap.setIfInBounds a.block (.cells c t fr) = w.heap := by
        apply Array.ext_getElem?
        intro j
        by_cases e : a.block = j
        · subst e
          have hlt : a.block < w.heap.size := by
            rcases Nat.lt_or_ge a.block w.heap.size with h' | h'
            · exact h'
            · rw [Array.getElem?_eq_none h'] at hb; cases hb
          rw [hb]; simp [hlt]
        · rw [Array.getElem?_setIfInBounds_ne e]
      rw [this]
    rwa [wr, e] at hq
  | v :: vs, i, w, c, hb, hsz, hf, ho, hq => by
    simp only [List.length_cons] at hsz
    have hadd : (a.add i) = ⟨a.block, a.off + i, none⟩ := by
      unfold Addr.add
      split
      · rename_i h0; subst h0
        obtain ⟨b, o, s⟩ := a
        simp only at hsp
        subst hsp; rfl
      · rfl
    show Sat P F n (store (a.add i) v >>= fun _ => storeCells a vs (i + 1)) w Q E
    refine sat_bind' ⟨ho v (by simp), ⟨c.getD (a.off + i) undef, ?_⟩, ?_, ?_, ?_⟩
    · rw [hadd]
      have hlt : a.off + i < c.size := by omega
      simp only [World.cell?, hb]
      simp [hlt]
    · rw [hadd]
      simp only [World.frozen?, hb]
      have := hf (a.off + i) (by omega)
      simpa using this
    · rw [hadd]; exact hm
    · show Sat P F n (storeCells a vs (i + 1)) (w.setCell (a.add i) v) Q E
      rw [hadd]
      rw [setCell_putB (a := ⟨a.block, a.off + i, none⟩) hb rfl v]
      refine sat_storeCells a hm hsp vs (i + 1) _ (c.setIfInBounds (a.off + i) v) (putB_at hb) (by simp; omega) (by simpa using hf) (fun x hx => ho x (List.mem_cons_of_mem _ hx)) ?_
      simp only
      rw [putB_putB]
      exact hq
end

/-! ### what the abstract heap knows -/
section
variable {P : Program} {G : Nat} {σ : Sub} {H : AHeap} {nx : Nat} {F : Foot} {w : World}

theorem HR.see (h : HR P G σ H nx F w) {id : Nat} {o : AObj} (hid : id < nx) (ho : H.at id = some o) (n : Nat) : F.see n (σ id).blk := by
  obtain ⟨_, h2⟩ := h.live id o (Nat.lt_of_lt_of_le hid h.top) ho
  rcases h2.mineRo with h3 | h3
  · exact .inl (.inl h3)
  · exact .inr h3

theorem HR.cell (h : HR P G σ H nx F w) {a : Addr} {t : TypeId} {cs : List Value} {gr ro : Bool} (hid : a.block < nx) (ho : H.at a.block = some (.cells t cs gr ro)) (j : Nat) (hj : a.off + j < cs.length) :
    w.cell? ((renA σ a).add j) = (cs[a.off + j]?).map (ren σ) := by
  obtain ⟨_, c, fr, h1, h2, h3, h4, h5, h6, h7⟩ := h.live a.block _ (Nat.lt_of_lt_of_le hid h.top) ho
  have e : (renA σ a).add j = ⟨(σ a.block).blk, (σ a.block).off + (a.off + j), none⟩ := by
    unfold Addr.add renA; split
    · rename_i h0; subst h0; rfl
    · simp [Nat.add_assoc]
  rw [e]
  simp only [World.cell?, h1]
  simpa using h3 _ hj

/-- A heap turned at one block. -/
theorem HR.rebuild {σ' : Sub} {H' : AHeap} {nx' : Nat} {F' : Foot} {w' : World} {tgt B : Nat} {o' : AObj} (h : HR P G σ H nx F w) (ha : Agree σ σ' nx) (hn : nx ≤ nx') (ht : nx' ≤ 2 ^ HD)
    (hl : ∀ id o, id < 2 ^ HD → H'.at id = some o → (id = tgt ∧ o = o') ∨ (id ≠ tgt ∧ H.at id = some o ∧ (σ id).blk ≠ B))
    (hB : (σ' tgt).blk = B) (htgt : tgt < nx') (ho : ObjR P σ' nx' F' w' tgt o')
    (hw : ∀ b, b ≠ B → F.mine b ∨ F.ro b → w'.heap[b]? = w.heap[b]?) (hm : ∀ b, F.mine b → F'.mine b) (hr : F'.ro = F.ro)
    (hm' : ∀ b, F'.mine b → b < w'.heap.size) (hs : w.heap.size ≤ w'.heap.size) (hx : ∀ b, F'.ro b → ¬ F'.mine b) : HR P G σ' H' nx' F' w' := by
  have key : ∀ id o, id < 2 ^ HD → H.at id = some o → (σ id).blk ≠ B → ObjR P σ' nx' F' w' id o := by
    intro id o hid hoo hne
    obtain ⟨h1, h2⟩ := h.live id o hid hoo
    have h3 := h2.ext h1 ha hn
    have e1 := ha id h1
    have e := hw _ hne h2.mineRo
    cases o with
    | cells t cs grown ro =>
      obtain ⟨c, fr, h3, h4, h5, h6, h7, h8, h9⟩ := h3
      refine ⟨c, fr, ?_, h4, h5, h6, h7, h8, ?_⟩
      · rw [← e1] at h3 ⊢; exact e.trans h3
      · cases ro
        · simpa using hm _ (by simpa using h9)
        · simpa [hr] using h9
    | map es clock =>
      refine ⟨?_, h3.2.1, hm _ h3.2.2⟩
      have := h3.1
      rw [← e1] at this ⊢; exact e.trans this
  refine ⟨fun id o hid hoo => ?_, fun id id' o o2 hid hid' ho1 ho2 he => ?_, ht, ⟨Nat.le_trans h.glob.1 hn, fun g hg => ?_⟩, hm', fun b hb => ⟨Nat.lt_of_lt_of_le (h.ro b (hr ▸ hb)).1 hs, hx b hb⟩⟩
  · rcases hl id o hid hoo with ⟨rfl, rfl⟩ | ⟨_, h2, h3⟩
    · exact ⟨htgt, ho⟩
    · exact ⟨Nat.lt_of_lt_of_le (h.live id o hid h2).1 hn, key id o hid h2 h3⟩
  · rcases hl id o hid ho1 with ⟨rfl, rfl⟩ | ⟨_, h2, h3⟩
    · rcases hl id' o2 hid' ho2 with ⟨rfl, rfl⟩ | ⟨_, h2', h3'⟩
      · rfl
      · rw [hB, ← ha id' (h.live id' o2 hid' h2').1] at he
        exact absurd he.symm h3'
    · rcases hl id' o2 hid' ho2 with ⟨rfl, rfl⟩ | ⟨_, h2', h3'⟩
      · rw [hB, ← ha id (h.live id o hid h2).1] at he
        exact absurd he h3
      · rw [← ha id (h.live id o hid h2).1, ← ha id' (h.live id' o2 hid' h2').1] at he
        exact h.inj id id' o o2 hid hid' h2 h2' he
  · rw [← ha g (Nat.lt_of_lt_of_le hg h.glob.1)]; exact h.glob.2 g hg

def upd (σ : Sub) (k : Nat) (s : Slot) : Sub := fun i => if i = k then s else σ i
theorem upd_at (σ : Sub) (k : Nat) (s : Slot) : upd σ k s k = s := by simp [upd]
theorem upd_agree (σ : Sub) (k : Nat) (s : Slot) : Agree σ (upd σ k s) k := fun i hi => by simp [upd, Nat.ne_of_lt hi]

theorem heap_push_old {w w' : World} {o : Obj} (hw : w'.heap = w.heap.push o) {b : Nat} (hb : b < w.heap.size) : w'.heap[b]? = w.heap[b]? := by
  rw [hw]; simp [Array.getElem?_push, Nat.ne_of_lt hb]
theorem heap_push_new {w w' : World} {o : Obj} (hw : w'.heap = w.heap.push o) : w'.heap[w.heap.size]? = some o := by
  rw [hw]; simp

/-- A new block of cells. -/
theorem HR.alloc (h : HR P G σ H nx F w) (hnx : nx < 2 ^ HD) {t : TypeId} {cs : List Value} {c : Array Value} {fr : Nat × Nat} {gr : Bool} (slack : Nat) {w' : World}
    (hw : w'.heap = w.heap.push (.cells c t fr)) (hsz : cs.length + slack * P.cellsOf t ≤ c.size) (hc : ∀ i, i < cs.length → c[i]? = (cs[i]?).map (ren σ))
    (hf : ∀ i, i < c.size → ¬ (fr.1 ≤ i ∧ i < fr.2)) (hg : gr = false → slack = 0) (hsc : ∀ v ∈ cs, Sc nx v) :
    HR P G (upd σ nx ⟨w.heap.size, 0, slack⟩) (H.put nx (some (.cells t cs gr false))) (nx + 1) (F.grow w.heap.size w'.heap.size) w' ∧
    Keeps σ H F w (upd σ nx ⟨w.heap.size, 0, slack⟩) (H.put nx (some (.cells t cs gr false))) (F.grow w.heap.size w'.heap.size) w' := by
  have hs : w'.heap.size = w.heap.size + 1 := by rw [hw]; simp
  have hlive : ∀ id o, id < 2 ^ HD → (H.put nx (some (.cells t cs gr false))).at id = some o → (id = nx ∧ o = .cells t cs gr false) ∨ (id ≠ nx ∧ H.at id = some o) := by
    intro id o hid ho
    rw [AHeap.at_put H nx id _ hnx hid] at ho
    by_cases e : nx = id
    · rw [if_pos e] at ho; exact .inl ⟨e.symm, (Option.some.inj ho).symm⟩
    · rw [if_neg e] at ho; exact .inr ⟨Ne.symm e, ho⟩
  have hblk : ∀ id o, id < 2 ^ HD → H.at id = some o → (σ id).blk < w.heap.size := by
    intro id o hid ho
    rcases (h.live id o hid ho).2.mineRo with h1 | h1
    · exact h.mine _ h1
    · exact (h.ro _ h1).1
  refine ⟨h.rebuild (tgt := nx) (B := w.heap.size) (o' := .cells t cs gr false) (upd_agree _ _ _) (Nat.le_succ _) hnx ?_ (by rw [upd_at]) (Nat.lt_succ_self _) ?_ ?_ ?_ rfl ?_ ?_ ?_, ?_⟩
  · intro id o hid ho
    rcases hlive id o hid ho with h1 | ⟨h1, h2⟩
    · exact .inl h1
    · exact .inr ⟨h1, h2, Nat.ne_of_lt (hblk id o hid h2)⟩
  · refine ⟨c, fr, by rw [upd_at]; exact heap_push_new hw, by rw [upd_at]; simpa using hsz, fun i hi => ?_, hf, fun e => by rw [upd_at]; exact hg e, fun v hv => (hsc v hv).mono (Nat.le_succ _), ?_⟩
    · rw [upd_at]
      simp only [Nat.zero_add]
      rw [hc i hi]
      cases hcs : cs[i]? with
      | none => rfl
      | some v => simp only [Option.map_some]; rw [hsc v (List.mem_of_getElem? hcs) σ _ (upd_agree _ _ _)]
    · rw [upd_at]; simp only [Bool.false_eq_true, if_false]; exact .inr ⟨Nat.le_refl _, by omega⟩
  · intro b hb hmr
    have : b < w.heap.size := by rcases hmr with h1 | h1; exact h.mine _ h1; exact (h.ro _ h1).1
    exact heap_push_old hw this
  · exact fun b hb => .inl hb
  · rintro b (hb | hb)
    · have := h.mine b hb; omega
    · omega
  · omega
  · rintro b hb (hm | hm)
    · exact (h.ro b hb).2 hm
    · have := (h.ro b hb).1; omega
  · refine ⟨by omega, fun b hb => .inl hb, rfl, fun b hb hi => ⟨?_, heap_push_old hw (h.mine b hb)⟩⟩
    rintro ⟨id, o, hid, ho, e⟩
    rcases hlive id o hid ho with ⟨rfl, _⟩ | ⟨h1, h2⟩
    · rw [upd_at] at e; have := h.mine b hb; change w.heap.size = b at e; omega
    · rw [← upd_agree σ nx _ id (h.live id o hid h2).1] at e
      exact hi ⟨id, o, hid, h2, e⟩

/-- A new map. -/
theorem HR.allocMap (h : HR P G σ H nx F w) (hnx : nx < 2 ^ HD) {w' : World} (hw : w'.heap = w.heap.push (.map #[] 0)) :
    HR P G (upd σ nx ⟨w.heap.size, 0, 0⟩) (H.put nx (some (.map [] 0))) (nx + 1) (F.grow w.heap.size w'.heap.size) w' ∧
    Keeps σ H F w (upd σ nx ⟨w.heap.size, 0, 0⟩) (H.put nx (some (.map [] 0))) (F.grow w.heap.size w'.heap.size) w' := by
  have hs : w'.heap.size = w.heap.size + 1 := by rw [hw]; simp
  have hlive : ∀ id o, id < 2 ^ HD → (H.put nx (some (.map [] 0))).at id = some o → (id = nx ∧ o = .map [] 0) ∨ (id ≠ nx ∧ H.at id = some o) := by
    intro id o hid ho
    rw [AHeap.at_put H nx id _ hnx hid] at ho
    by_cases e : nx = id
    · rw [if_pos e] at ho; exact .inl ⟨e.symm, (Option.some.inj ho).symm⟩
    · rw [if_neg e] at ho; exact .inr ⟨Ne.symm e, ho⟩
  have hblk : ∀ id o, id < 2 ^ HD → H.at id = some o → (σ id).blk < w.heap.size := by
    intro id o hid ho
    rcases (h.live id o hid ho).2.mineRo with h1 | h1
    · exact h.mine _ h1
    · exact (h.ro _ h1).1
  refine ⟨h.rebuild (tgt := nx) (B := w.heap.size) (o' := .map [] 0) (upd_agree _ _ _) (Nat.le_succ _) hnx ?_ (by rw [upd_at]) (Nat.lt_succ_self _) ?_ ?_ ?_ rfl ?_ ?_ ?_, ?_⟩
  · intro id o hid ho
    rcases hlive id o hid ho with h1 | ⟨h1, h2⟩
    · exact .inl h1
    · exact .inr ⟨h1, h2, Nat.ne_of_lt (hblk id o hid h2)⟩
  · exact ⟨by rw [upd_at]; exact heap_push_new hw, by simp, by rw [upd_at]; exact .inr ⟨Nat.le_refl _, by show w.heap.size < _; omega⟩⟩
  · intro b hb hmr
    have : b < w.heap.size := by rcases hmr with h1 | h1; exact h.mine _ h1; exact (h.ro _ h1).1
    exact heap_push_old hw this
  · exact fun b hb => .inl hb
  · rintro b (hb | hb)
    · have := h.mine b hb; omega
    · omega
  · omega
  · rintro b hb (hm | hm)
    · exact (h.ro b hb).2 hm
    · have := (h.ro b hb).1; omega
  · refine ⟨by omega, fun b hb => .inl hb, rfl, fun b hb hi => ⟨?_, heap_push_old hw (h.mine b hb)⟩⟩
    rintro ⟨id, o, hid, ho, e⟩
    rcases hlive id o hid ho with ⟨rfl, _⟩ | ⟨h1, h2⟩
    · rw [upd_at] at e; have := h.mine b hb; change w.heap.size = b at e; omega
    · rw [← upd_agree σ nx _ id (h.live id o hid h2).1] at e
      exact hi ⟨id, o, hid, h2, e⟩

/-- A live block of one's own, turned. -/
theorem HR.turn (h : HR P G σ H nx F w) {id : Nat} {o o' : AObj} (hid : id < nx) (ho : H.at id = some o) {ob : Obj} (hR : ObjR P σ nx F (w.putB (σ id).blk ob) id o') :
    HR P G σ (H.put id (some o')) nx F (w.putB (σ id).blk ob) ∧ Keeps σ H F w σ (H.put id (some o')) F (w.putB (σ id).blk ob) := by
  have hidd := Nat.lt_of_lt_of_le hid h.top
  have hlive : ∀ k x, k < 2 ^ HD → (H.put id (some o')).at k = some x → (k = id ∧ x = o') ∨ (k ≠ id ∧ H.at k = some x) := by
    intro k x hk hx
    rw [AHeap.at_put H id k _ hidd hk] at hx
    by_cases e : id = k
    · rw [if_pos e] at hx; exact .inl ⟨e.symm, (Option.some.inj hx).symm⟩
    · rw [if_neg e] at hx; exact .inr ⟨Ne.symm e, hx⟩
  refine ⟨h.rebuild (tgt := id) (B := (σ id).blk) (o' := o') (Agree.refl _ _) (Nat.le_refl _) h.top ?_ rfl hid hR (fun b hb _ => putB_ne (Ne.symm hb)) (fun _ h => h) rfl (fun b hb => by rw [putB_size]; exact h.mine b hb) (by rw [putB_size]; exact Nat.le_refl _) (fun b hb => (h.ro b hb).2), ?_⟩
  · intro k x hk hx
    rcases hlive k x hk hx with h1 | ⟨h1, h2⟩
    · exact .inl h1
    · exact .inr ⟨h1, h2, fun e => h1 (h.inj k id x o hk hidd h2 ho e)⟩
  · refine ⟨by rw [putB_size]; exact Nat.le_refl _, fun _ h => h, rfl, fun b hb hi => ⟨?_, putB_ne fun e => hi ⟨id, o, hidd, ho, e⟩⟩⟩
    rintro ⟨k, x, hk, hx, e⟩
    rcases hlive k x hk hx with ⟨rfl, _⟩ | ⟨_, h2⟩
    · exact hi ⟨k, o, hk, ho, e⟩
    · exact hi ⟨k, x, hk, h2, e⟩

/-- A live block of one's own dies, and a new id stands for what it became. -/
theorem HR.become (h : HR P G σ H nx F w) (hnx : nx < 2 ^ HD) {id : Nat} {o o' : AObj} (hid : id < nx) (ho : H.at id = some o) {ob : Obj} {s : Slot} (hs : s.blk = (σ id).blk)
    (hR : ObjR P (upd σ nx s) (nx + 1) F (w.putB (σ id).blk ob) nx o') :
    HR P G (upd σ nx s) ((H.put id none).put nx (some o')) (nx + 1) F (w.putB (σ id).blk ob) ∧ Keeps σ H F w (upd σ nx s) ((H.put id none).put nx (some o')) F (w.putB (σ id).blk ob) := by
  have hidd := Nat.lt_of_lt_of_le hid h.top
  have hlive : ∀ k x, k < 2 ^ HD → ((H.put id none).put nx (some o')).at k = some x → (k = nx ∧ x = o') ∨ (k ≠ nx ∧ k ≠ id ∧ H.at k = some x) := by
    intro k x hk hx
    rw [AHeap.at_put _ nx k _ hnx hk] at hx
    by_cases e : nx = k
    · rw [if_pos e] at hx; exact .inl ⟨e.symm, (Option.some.inj hx).symm⟩
    · rw [if_neg e, AHeap.at_put _ id k _ hidd hk] at hx
      by_cases e2 : id = k
      · rw [if_pos e2] at hx; cases hx
      · rw [if_neg e2] at hx; exact .inr ⟨Ne.symm e, Ne.symm e2, hx⟩
  refine ⟨h.rebuild (tgt := nx) (B := (σ id).blk) (o' := o') (upd_agree _ _ _) (Nat.le_succ _) hnx ?_ (by rw [upd_at]; exact hs) (Nat.lt_succ_self _) hR (fun b hb _ => putB_ne (Ne.symm hb)) (fun _ h => h) rfl (fun b hb => by rw [putB_size]; exact h.mine b hb) (by rw [putB_size]; exact Nat.le_refl _) (fun b hb => (h.ro b hb).2), ?_⟩
  · intro k x hk hx
    rcases hlive k x hk hx with h1 | ⟨h1, h2, h3⟩
    · exact .inl h1
    · exact .inr ⟨h1, h3, fun e => h2 (h.inj k id x o hk hidd h3 ho e)⟩
  · refine ⟨by rw [putB_size]; exact Nat.le_refl _, fun _ h => h, rfl, fun b hb hi => ⟨?_, putB_ne fun e => hi ⟨id, o, hidd, ho, e⟩⟩⟩
    rintro ⟨k, x, hk, hx, e⟩
    rcases hlive k x hk hx with ⟨rfl, _⟩ | ⟨_, _, h2⟩
    · rw [upd_at, hs] at e; exact hi ⟨id, o, hidd, ho, e⟩
    · rw [← upd_agree σ nx s k (h.live k x hk h2).1] at e; exact hi ⟨k, x, hk, h2, e⟩

/-- A block is forgotten. -/
theorem HR.forget (h : HR P G σ H nx F w) {id : Nat} (hid : id < nx) : HR P G σ (H.put id none) nx F w ∧ Keeps σ H F w σ (H.put id none) F w := by
  have hidd := Nat.lt_of_lt_of_le hid h.top
  have hlive : ∀ k x, k < 2 ^ HD → (H.put id none).at k = some x → H.at k = some x := by
    intro k x hk hx
    rw [AHeap.at_put H id k _ hidd hk] at hx
    by_cases e : id = k
    · rw [if_pos e] at hx; cases hx
    · rwa [if_neg e] at hx
  exact ⟨⟨fun k x hk hx => h.live k x hk (hlive k x hk hx), fun k k' x x' hk hk' hx hx' e => h.inj k k' x x' hk hk' (hlive k x hk hx) (hlive k' x' hk' hx') e, h.top, h.glob, h.mine, h.ro⟩,
    ⟨Nat.le_refl _, fun _ h => h, rfl, fun b _ hi => ⟨fun ⟨k, x, hk, hx, e⟩ => hi ⟨k, x, hk, hlive k x hk hx, e⟩, rfl⟩⟩⟩
end
end Go.Proofs.Evz

/-
  ENGINE 4. Operations without calls: what they come to on abstract values, and that the model's trees come to that.
-/
namespace Go.Proofs.Evz
open Go Go.Conc

/-! ### what is known of the program -/
structure TI where
  und : TypeDesc
  size : Nat
  bytes : Nat
  zero : Option Value

def aggD : TypeDesc → Bool
  | .struct _ | .array _ _ => true
  | _ => false

structure Env where
  ti : Nat → Option TI
  fn : Nat → Option Func
  G : Nat

def Closedv (v : Value) : Prop := ∀ σ : Sub, ren σ v = v

structure EnvOk (P : Program) (env : Env) : Prop where
  ti : ∀ t i, env.ti t = some i → P.underlying t = some i.und ∧ ∃ j, P.info? t = some j ∧ j.size = i.size ∧ j.bytes = i.bytes ∧ j.zero = i.zero ∧ (∀ z, i.zero = some z → Closedv z)
  fn : ∀ f x, env.fn f = some x → P.funcs[f]? = some x ∧ (x.name == "runtime.NumGoroutine") = false
  mixed : P.follows .mixedOrders = true

theorem Closedv.sc {v : Value} (h : Closedv v) (n : Nat) : Sc n v := fun σ σ' _ => (h σ).trans (h σ').symm

/-- No address in it. -/
def closedB : Nat → Value → Bool
  | _, .bool _ | _, .int _ _ | _, .float _ _ | _, .complex _ _ _ | _, .string _ | _, .pointer none | _, .slice none _ _ | _, .map none | _, .chan none | _, .nilFunc | _, .nilIface => true
  | d + 1, .agg cs => cs.toList.all (closedB d)
  | d + 1, .tuple cs => cs.toList.all (closedB d)
  | d + 1, .func _ fi ca => fi.toList.all (closedB d) && ca.toList.all (closedB d)
  | d + 1, .iface _ v => closedB d v
  | _, _ => false
theorem amap_id {f : Value → Value} {l : Array Value} (h : ∀ v ∈ l, f v = v) : l.map f = l := by
  have : l.map f = l.map id := Array.map_congr_left h
  rw [this, Array.map_id]
theorem closedB_ok : ∀ (d : Nat) (v : Value), closedB d v = true → Closedv v
  | d, .bool _, _ => fun σ => by simp
  | d, .int _ _, _ => fun σ => by simp
  | d, .float _ _, _ => fun σ => by simp
  | d, .complex _ _ _, _ => fun σ => by simp
  | d, .string _, _ => fun σ => by simp
  | d, .pointer none, _ => fun σ => by simp
  | d, .slice none _ _, _ => fun σ => by simp
  | d, .map none, _ => fun σ => by simp
  | d, .chan none, _ => fun σ => by simp
  | d, .nilFunc, _ => fun σ => by simp
  | d, .nilIface, _ => fun σ => by simp
  | d, .pointer (some _), h => by cases d <;> simp [closedB] at h
  | d, .slice (some _) _ _, h => by cases d <;> simp [closedB] at h
  | d, .map (some _), h => by cases d <;> simp [closedB] at h
  | d, .chan (some _), h => by cases d <;> simp [closedB] at h
  | 0, .agg _, h => by simp [closedB] at h
  | 0, .tuple _, h => by simp [closedB] at h
  | 0, .func _ _ _, h => by simp [closedB] at h
  | 0, .iface _ _, h => by simp [closedB] at h
  | d + 1, .agg cs, h => fun σ => by
    simp only [closedB, List.all_eq_true] at h
    rw [ren_agg, amap_id fun v hv => closedB_ok d v (h v (by simpa using hv)) σ]
  | d + 1, .tuple cs, h => fun σ => by
    simp only [closedB, List.all_eq_true] at h
    rw [ren_tuple, amap_id fun v hv => closedB_ok d v (h v (by simpa using hv)) σ]
  | d + 1, .func fn fi ca, h => fun σ => by
    simp only [closedB, Bool.and_eq_true, List.all_eq_true] at h
    rw [ren_func, amap_id fun v hv => closedB_ok d v (h.1 v (by simpa using hv)) σ, amap_id fun v hv => closedB_ok d v (h.2 v (by simpa using hv)) σ]
  | d + 1, .iface t v, h => fun σ => by
    simp only [closedB] at h
    rw [ren_iface, closedB_ok d v h σ]

section
variable {P : Program} {F : Foot} {n : Nat} {w : World}

theorem sat_pure {α : Type} {a : α} {Q : α → World → Prop} {E : Value → World → Prop} (h : Q a w) : Sat P F n (pure a) w Q E := h
theorem sat_und {t : TypeId} {d : TypeDesc} {Q : TypeDesc → World → Prop} {E : Value → World → Prop} (h : P.underlying t = some d) (hq : Q d w) : Sat P F n (underlying t) w Q E := by
  show Sat P F n (match P.underlying t with | some d => pure d | none => stuck "no such type") w Q E
  rw [h]; exact hq
theorem sat_info {t : TypeId} {d : TypeInfo} {Q : TypeInfo → World → Prop} {E : Value → World → Prop} (h : P.info? t = some d) (hq : Q d w) : Sat P F n (typeInfo t) w Q E := by
  show Sat P F n (match P.info? t with | some i => pure i | none => stuck "no such type") w Q E
  rw [h]; exact hq
theorem sat_size {t : TypeId} {d : TypeInfo} {Q : Nat → World → Prop} {E : Value → World → Prop} (h : P.info? t = some d) (hq : Q d.size w) : Sat P F n (sizeOf t) w Q E :=
  sat_bind' (sat_info h hq)
theorem sat_zero {t : TypeId} {d : TypeInfo} {z : Value} {Q : Value → World → Prop} {E : Value → World → Prop} (h : P.info? t = some d) (hz : d.zero = some z) (hq : Q z w) : Sat P F n (zeroValue t) w Q E := by
  refine sat_bind' (sat_info h ?_)
  show Sat P F n (match d.zero with | some v => pure v | none => unsupported _) w Q E
  rw [hz]; exact hq
theorem sat_isAgg {t : TypeId} {d : TypeDesc} {Q : Bool → World → Prop} {E : Value → World → Prop} (h : P.underlying t = some d) (hq : Q (aggD d) w) : Sat P F n (isAgg t) w Q E := by
  refine sat_bind' (sat_und h ?_)
  cases d <;> exact hq
theorem sat_program {Q : Program → World → Prop} {E : Value → World → Prop} (hq : Q P w) : Sat P F n program w Q E := hq
end

/-! ### the shape of a law -/
section
variable (P : Program) (G : Nat) (σ : Sub) (H : AHeap) (nx : Nat) (F : Foot) (w : World)

/-- What an operation leaves: the value v, the abstract heap H'. -/
def Post (v : Value) (H' : AHeap) (nx' : Nat) (r : Value) (w' : World) : Prop :=
  ∃ σ', Agree σ σ' nx ∧ nx ≤ nx' ∧ r = ren σ' v ∧ Sc nx' v ∧ HR P G σ' H' nx' (F.grow w.heap.size w'.heap.size) w' ∧ Keeps σ H F w σ' H' (F.grow w.heap.size w'.heap.size) w'
end

def NoE : Value → World → Prop := fun _ _ => False

section
variable {P : Program} {G : Nat} {σ : Sub} {H : AHeap} {nx : Nat} {F : Foot} {w : World}

theorem post_pure (h : HR P G σ H nx F w) {v r : Value} (hv : Sc nx v) (hr : r = ren σ v) : Post P G σ H nx F w v H nx r w :=
  ⟨σ, Agree.refl _ _, Nat.le_refl _, hr, hv, by rw [grow_self]; exact h, by rw [grow_self]; exact Keeps.refl⟩

theorem HR.heapEq {w' : World} (h : HR P G σ H nx F w) (e : w'.heap = w.heap) : HR P G σ H nx F w' :=
  h.world (fun b _ => by rw [e]) (fun _ h => h) rfl (fun b hb => by rw [e]; exact h.mine b hb) (by rw [e]; exact Nat.le_refl _) (fun b hb => (h.ro b hb).2)
end

/-! ### windows of cells -/
noncomputable def dropK (n : Nat) : List Value → List Value :=
  @Nat.rec (fun _ => List Value → List Value) (fun l => l) (fun _ ih l => @List.casesOn Value (fun _ => List Value) l [] (fun _ t => ih t)) n
noncomputable def consK (v : Value) (x : Option (List Value)) : Option (List Value) := @Option.rec (List Value) (fun _ => Option (List Value)) none (fun r => some (v :: r)) x
noncomputable def takeK (n : Nat) : List Value → Option (List Value) :=
  @Nat.rec (fun _ => List Value → Option (List Value)) (fun _ => some []) (fun _ ih l => @List.casesOn Value (fun _ => Option (List Value)) l none (fun v t => consK v (ih t))) n
noncomputable def nthK (l : List Value) : Nat → Option Value :=
  @List.rec Value (fun _ => Nat → Option Value) (fun _ => none) (fun v _ ih n => @Nat.casesOn (fun _ => Option Value) n (some v) (fun m => ih m)) l
/-- cells turned from the front on -/
noncomputable def splice0 (vs : List Value) : List Value → Option (List Value) :=
  @List.rec Value (fun _ => List Value → Option (List Value)) (fun cs => some cs) (fun v _ ih cs => @List.casesOn Value (fun _ => Option (List Value)) cs none (fun _ t => consK v (ih t))) vs
/-- cells turned from a place on -/
noncomputable def splice (n : Nat) (cs vs : List Value) : Option (List Value) :=
  @Nat.rec (fun _ => List Value → Option (List Value)) (splice0 vs) (fun _ ih cs => @List.casesOn Value (fun _ => Option (List Value)) cs none (fun c t => consK c (ih t))) n cs
theorem consK_some {v : Value} {x : Option (List Value)} {r : List Value} (h : consK v x = some r) : ∃ t, x = some t ∧ r = v :: t := by
  cases x with
  | none => cases h
  | some t => cases h; exact ⟨t, rfl, rfl⟩

theorem nthK_eq : ∀ (l : List Value) (n : Nat), nthK l n = l[n]?
  | [], _ => rfl
  | _ :: _, 0 => rfl
  | _ :: l, n + 1 => (nthK_eq l n : nthK l n = l[n]?)
theorem dropK_eq : ∀ (n : Nat) (l : List Value), dropK n l = l.drop n
  | 0, _ => rfl
  | _ + 1, [] => rfl
  | n + 1, _ :: l => dropK_eq n l
theorem takeK_eq : ∀ (n : Nat) (l r : List Value), takeK n l = some r → r = l.take n ∧ n ≤ l.length
  | 0, _, r, h => by cases h; simp
  | n + 1, [], r, h => by cases h
  | n + 1, v :: l, r, h => by
    obtain ⟨t, ht, rfl⟩ := consK_some (show consK v (takeK n l) = some r from h)
    obtain ⟨h1, h2⟩ := takeK_eq n l t ht
    simp [h1, h2]
theorem splice_eq : ∀ (n : Nat) (cs vs r : List Value), splice n cs vs = some r → r.length = cs.length ∧ n + vs.length ≤ cs.length ∧ ∀ i, r[i]? = if n ≤ i ∧ i < n + vs.length then vs[i - n]? else cs[i]?
  | 0, cs, [], r, h => by
    cases h
    refine ⟨rfl, by simp, fun i => ?_⟩
    rw [if_neg]; simp
  | 0, [], _ :: _, r, h => by cases h
  | 0, c :: cs, v :: vs, r, h => by
    obtain ⟨r', hs, rfl⟩ := consK_some (show consK v (splice 0 cs vs) = some r from h)
    obtain ⟨h1, h2, h3⟩ := splice_eq 0 cs vs r' hs
    refine ⟨by simp [h1], by simp at h2 ⊢; exact h2, fun i => ?_⟩
    cases i with
    | zero => simp
    | succ i =>
      have := h3 i
      simp only [Nat.zero_le, true_and, Nat.zero_add, Nat.sub_zero, List.length_cons, List.getElem?_cons_succ, Nat.add_lt_add_iff_right] at this ⊢
      exact this
  | n + 1, [], _, r, h => by cases h
  | n + 1, c :: cs, vs, r, h => by
    obtain ⟨r', hs, rfl⟩ := consK_some (show consK c (splice n cs vs) = some r from h)
    obtain ⟨h1, h2, h3⟩ := splice_eq n cs vs r' hs
    refine ⟨by simp [h1], by simp; omega, fun i => ?_⟩
    cases i with
    | zero => simp
    | succ i =>
      have := h3 i
      simp only [List.getElem?_cons_succ, this]
      by_cases e : n ≤ i ∧ i < n + vs.length
      · rw [if_pos e, if_pos (by omega)]; congr 1; omega
      · rw [if_neg e, if_neg (by omega)]

/-- cells of a block, from a place on, as a value of a type. -/
noncomputable def aPart (ti : TI) (cs : List Value) (o : Nat) : Option Value :=
  bif aggD ti.und then (match takeK ti.size (dropK o cs) with | some l => some (.agg ⟨l⟩) | none => none) else nthK cs o

noncomputable def aLoad (env : Env) (t : TypeId) (pv : Value) (H : AHeap) : Option Value :=
  match pv with
  | .pointer (some a) => match env.ti t, H.at a.block with
    | some ti, some (.cells _ cs _ _) => aPart ti cs a.off
    | _, _ => none
  | _ => none

noncomputable def allOne (l : List Value) : Bool := @List.rec Value (fun _ => Bool) true (fun v _ ih => @Bool.rec (fun _ => Bool) false ih (one v)) l
theorem allOne_eq : ∀ (l : List Value), allOne l = true → ∀ v ∈ l, one v = true
  | [], _, v, hv => by cases hv
  | x :: l, h, v, hv => by
    have h : @Bool.rec (fun _ => Bool) false (allOne l) (one x) = true := h
    cases hx : one x with
    | false => rw [hx] at h; cases h
    | true =>
      rw [hx] at h
      cases hv with
      | head => exact hx
      | tail _ hv => exact allOne_eq l h v hv

noncomputable def aStore (env : Env) (t : TypeId) (pv xv : Value) (H : AHeap) : Option AHeap :=
  match pv with
  | .pointer (some a) => match env.ti t, H.at a.block with
    | some ti, some (.cells et cs gr ro) =>
      bif ro then none else
      let vs := xv.cells.toList
      bif Nat.beq vs.length ti.size && allOne vs then (match splice a.off cs vs with | some cs' => some (H.put a.block (some (.cells et cs' gr ro))) | none => none) else none
    | _, _ => none
  | _ => none

section
variable {P : Program} {env : Env} {G : Nat} {σ : Sub} {H : AHeap} {nx : Nat} {F : Foot} {w : World}

theorem sat_loadVar (ok : EnvOk P env) (h : HR P G σ H nx F w) {t : TypeId} {a : Addr} {ti : TI} (hti : env.ti t = some ti) {et : TypeId} {cs : List Value} {gr ro : Bool} (hid : a.block < nx)
    (ho : H.at a.block = some (.cells et cs gr ro)) {v : Value} (hv : aPart ti cs a.off = some v) {Q : Value → World → Prop} {E : Value → World → Prop} {n : Nat} (hq : Sc nx v → Q (ren σ v) w) :
    Sat P F n (loadVar t (renA σ a)) w Q E := by
  obtain ⟨h1, j, h2, h3, h4, h5, h6⟩ := ok.ti t ti hti
  obtain ⟨_, c, fr, g1, g2, g3, g4, g5, g6, g7⟩ := h.live a.block _ (Nat.lt_of_lt_of_le hid h.top) ho
  refine sat_bind' (sat_isAgg h1 ?_)
  unfold aPart at hv
  cases hagg : aggD ti.und with
  | true =>
    rw [hagg] at hv
    simp only [cond_true] at hv
    simp only [if_true]
    cases ht : takeK ti.size (dropK a.off cs) with
    | none => rw [ht] at hv; cases hv
    | some l =>
      rw [ht] at hv
      obtain ⟨e1, e2⟩ := takeK_eq _ _ _ ht
      rw [dropK_eq] at e1 e2
      have hlen : l.length = ti.size := by rw [e1, List.length_take]; omega
      have hcs : ∀ k, k < l.length → l[k]? = cs[a.off + k]? := fun k hk => by
        rw [e1, List.getElem?_take, if_pos (by omega), List.getElem?_drop]
      cases hv
      refine sat_bind' (sat_size h2 ?_)
      refine sat_bind' (sat_loadCells (renA σ a) (h.see hid ho n) (l.map (ren σ)) j.size (by simp [hlen, h3]) (fun k hk => ?_) ?_)
      · simp only [List.length_map] at hk
        have hkk : a.off + k < cs.length := by simp only [List.length_drop] at e2; omega
        rw [h.cell hid ho k hkk, List.getElem?_map, hcs k hk]
      · have hsc : Sc nx (.agg ⟨l⟩) := sc_agg fun x hx => by
          obtain ⟨k, hk⟩ := List.getElem?_of_mem (by simpa using hx : x ∈ l)
          have hk' : k < l.length := by
            rcases Nat.lt_or_ge k l.length with h' | h'
            · exact h'
            · rw [List.getElem?_eq_none h'] at hk; cases hk
          rw [hcs k hk'] at hk
          exact g6 x (List.mem_of_getElem? hk)
        have := hq hsc
        simp only [ren_agg] at this
        exact sat_pure (by simpa using this)
  | false =>
    rw [hagg] at hv
    simp only [cond_false, nthK_eq] at hv
    simp only [Bool.false_eq_true, if_false]
    have hlt : a.off < cs.length := by
      rcases Nat.lt_or_ge a.off cs.length with h' | h'
      · exact h'
      · rw [List.getElem?_eq_none h'] at hv; cases hv
    have hc := h.cell hid ho 0 (by simpa using hlt)
    simp only [Nat.add_zero, hv, Option.map_some] at hc
    have e : (renA σ a).add 0 = renA σ a := rfl
    rw [e] at hc
    exact ⟨_, hc, h.see hid ho n, hq (g6 v (List.mem_of_getElem? hv))⟩

theorem sat_load (ok : EnvOk P env) (h : HR P G σ H nx F w) {t : TypeId} {pv v : Value} (hp : Sc nx pv) (he : aLoad env t pv H = some v) :
    Sat P F w.heap.size (Instr.loadAt t (ren σ pv)) w (Post P G σ H nx F w v H nx) NoE := by
  unfold aLoad at he
  split at he
  · rename_i a
    split at he
    · rename_i ti et cs gr ro hti ho
      rw [ren_pointer]
      show Sat P F _ (loadVar t (renA σ a)) w _ _
      exact sat_loadVar ok h hti (sc_pointer_lt hp) ho he fun hs => post_pure h hs rfl
    · cases he
  · cases he

theorem sat_store (ok : EnvOk P env) (h : HR P G σ H nx F w) {t : TypeId} {pv xv : Value} {H' : AHeap} (hp : Sc nx pv) (hx : Sc nx xv) (he : aStore env t pv xv H = some H') :
    Sat P F w.heap.size (Instr.storeAt t (ren σ pv) (ren σ xv)) w (fun _ w' => Post P G σ H nx F w undef H' nx undef w') NoE := by
  unfold aStore at he
  split at he
  · rename_i a
    split at he
    · rename_i ti et cs gr ro hti ho
      obtain ⟨h1, j, h2, h3, h4, h5, h6⟩ := ok.ti t ti hti
      have hid := sc_pointer_lt hp
      obtain ⟨_, c, fr, g1, g2, g3, g4, g5, g6, g7⟩ := h.live a.block _ (Nat.lt_of_lt_of_le hid h.top) ho
      cases ro with
      | true => cases he
      | false =>
        simp only [Bool.false_eq_true, if_false] at g7
        simp only [cond_false] at he
        cases hb : (Nat.beq xv.cells.toList.length ti.size && allOne xv.cells.toList) with
        | false => rw [hb] at he; cases he
        | true =>
          rw [hb] at he
          simp only [cond_true] at he
          rw [Bool.and_eq_true] at hb
          have hlen : xv.cells.toList.length = ti.size := Nat.eq_of_beq_eq_true hb.1
          have hone := allOne_eq _ hb.2
          cases hs : splice a.off cs xv.cells.toList with
          | none => rw [hs] at he; cases he
          | some cs' =>
            rw [hs] at he
            obtain rfl := Option.some.inj he
            obtain ⟨s1, s2, s3⟩ := splice_eq _ _ _ _ hs
            rw [ren_pointer]
            show Sat P F _ (storeVar t (renA σ a) (ren σ xv)) w _ _
            refine sat_bind' (sat_size h2 ?_)
            have hcz : ((ren σ xv).cells).size = j.size := by rw [cells_ren, Array.size_map, h3, ← hlen]; simp
            rw [if_neg (by simpa using hcz)]
            refine sat_storeCells (t := et) (fr := fr) (renA σ a) (.inl g7) rfl _ 0 w c g1 ?_ g4 ?_ ?_
            · simp only [cells_ren, Array.toList_map, List.length_map]
              have : (renA σ a).off = (σ a.block).off + a.off := rfl
              rw [this]; omega
            · intro v hv
              rw [cells_ren] at hv
              simp only [Array.toList_map, List.mem_map] at hv
              obtain ⟨x, hx, rfl⟩ := hv
              rw [one_ren]; exact hone x hx
            · have hk := h.turn (id := a.block) (o := .cells et cs gr false) (o' := .cells et cs' gr false) hid ho (ob := .cells (wr c ((renA σ a).off + 0) (ren σ xv).cells.toList) et fr) ?_
              · refine ⟨σ, Agree.refl _ _, Nat.le_refl _, by simp, sc_undef _, ?_, ?_⟩
                · rw [putB_size, grow_self]; exact hk.1
                · rw [putB_size, grow_self]; exact hk.2
              · refine ⟨_, fr, putB_at g1, ?_, ?_, ?_, g5, ?_, by simpa using g7⟩
                · rw [wr_size, s1]; exact g2
                · intro i hi
                  rw [s1] at hi
                  have e1 : (renA σ a).off = (σ a.block).off + a.off := rfl
                  have e2 : (ren σ xv).cells.toList.length = xv.cells.toList.length := by simp [cells_ren]
                  rw [wr_get _ _ _ _ (by rw [e1, e2]; omega), s3 i, e1, e2]
                  by_cases e : a.off ≤ i ∧ i < a.off + xv.cells.toList.length
                  · rw [if_pos e, if_pos (by omega)]
                    have : (σ a.block).off + i - ((σ a.block).off + a.off + 0) = i - a.off := by omega
                    rw [this, cells_ren]
                    simp
                  · rw [if_neg e, if_neg (by omega)]
                    exact g3 i hi
                · rw [wr_size]; exact g4
                · intro v hv
                  obtain ⟨k, hk⟩ := List.getElem?_of_mem hv
                  rw [s3 k] at hk
                  split at hk
                  · exact hx.cells v (by simpa using List.mem_of_getElem? hk)
                  · exact g6 v (List.mem_of_getElem? hk)
    · cases he
  · cases he
end
end Go.Proofs.Evz

/-
  ENGINE 5. More operations: new variables, literals, addresses, slices, arithmetic.
-/
namespace Go.Proofs.Evz
open Go Go.Conc

/-- A tree that is a value already. -/
def pureOf {α : Type} : Sem α → Option α
  | .pure v => some v
  | _ => none

theorem sat_pureOf {P : Program} {F : Foot} {n : Nat} {w : World} {α : Type} {s : Sem α} {v : α} (h : pureOf s = some v) {Q : α → World → Prop} {E : Value → World → Prop} (hq : Q v w) : Sat P F n s w Q E := by
  cases s <;> simp only [pureOf, Option.some.injEq, reduceCtorEq] at h
  subst h; exact hq

/-! ### new blocks -/
noncomputable def aNew (t : TypeId) (cs : List Value) (gr : Bool) (H : AHeap) (nx : Nat) : AHeap := H.put nx (some (.cells t cs gr false))

section
variable {P : Program} {env : Env} {G : Nat} {σ : Sub} {H : AHeap} {nx : Nat} {F : Foot} {w : World}

/-- A new block and a value that speaks of it. -/
theorem post_alloc (h : HR P G σ H nx F w) (hnx : nx < 2 ^ HD) {t : TypeId} {cs : List Value} {c : Array Value} {fr : Nat × Nat} {gr : Bool} (slack : Nat) {v r : Value} {w' : World}
    (hw : w'.heap = w.heap.push (.cells c t fr)) (hsz : cs.length + slack * P.cellsOf t ≤ c.size) (hc : ∀ i, i < cs.length → c[i]? = (cs[i]?).map (ren σ))
    (hf : ∀ i, i < c.size → ¬ (fr.1 ≤ i ∧ i < fr.2)) (hg : gr = false → slack = 0) (hsc : ∀ v ∈ cs, Sc nx v) (hv : Sc (nx + 1) v) (hr : r = ren (upd σ nx ⟨w.heap.size, 0, slack⟩) v) :
    Post P G σ H nx F w v (aNew t cs gr H nx) (nx + 1) r w' := by
  obtain ⟨h1, h2⟩ := h.alloc hnx slack hw hsz hc hf hg hsc
  exact ⟨_, upd_agree _ _ _, Nat.le_succ _, hr, hv, h1, h2⟩

theorem sat_newRow {t : TypeId} {c : Array Value} {n : Nat} {Q : Addr → World → Prop} {E : Value → World → Prop} (hq : Q ⟨w.heap.size, 0, none⟩ { w with heap := w.heap.push (.cells c t) }) : Sat P F n (newRow t c) w Q E := hq

theorem sat_newVar (h : HR P G σ H nx F w) (hnx : nx < 2 ^ HD) {t : TypeId} {xv : Value} (hx : Sc nx xv) {n : Nat} :
    Sat P F n (newVar t (ren σ xv)) w (fun a w' => Post P G σ H nx F w (.pointer (some ⟨nx, 0, none⟩)) (aNew t xv.cells.toList false H nx) (nx + 1) (.pointer (some a)) w') NoE := by
  refine sat_newRow ?_
  refine post_alloc h hnx (cs := xv.cells.toList) (c := (ren σ xv).cells) (fr := (0, 0)) 0 rfl (by simp [cells_ren]) (fun i hi => ?_) (fun i _ => by simp) (fun _ => rfl) (fun v hv => hx.cells v (by simpa using hv)) (sc_pointer (Nat.lt_succ_self _)) ?_
  · rw [cells_ren]; simp
  · simp [renA, upd_at]

noncomputable def aAlloc (env : Env) (t : TypeId) (H : AHeap) (nx : Nat) : Option (Value × AHeap × Nat) :=
  bif Nat.blt nx (2 ^ HD) then (match env.ti t with
    | some ti => match ti.zero with
      | some z => some (.pointer (some ⟨nx, 0, none⟩), aNew t z.cells.toList false H nx, nx + 1)
      | none => none
    | none => none) else none

noncomputable def aBox (t : TypeId) (xv : Value) (H : AHeap) (nx : Nat) : Option (Value × AHeap × Nat) :=
  bif Nat.blt nx (2 ^ HD) then some (.pointer (some ⟨nx, 0, none⟩), aNew t xv.cells.toList false H nx, nx + 1) else none

theorem blt_lt {a b : Nat} (h : Nat.blt a b = true) : a < b := by
  unfold Nat.blt at h; exact Nat.le_of_ble_eq_true h

theorem sat_alloc (ok : EnvOk P env) (h : HR P G σ H nx F w) {t : TypeId} {v : Value} {H' : AHeap} {nx' : Nat} (he : aAlloc env t H nx = some (v, H', nx')) {n : Nat} :
    Sat P F n (Instr.alloc t true (.tuple #[])) w (Post P G σ H nx F w v H' nx') NoE := by
  unfold aAlloc at he
  cases hb : Nat.blt nx (2 ^ HD) with
  | false => rw [hb] at he; cases he
  | true =>
    rw [hb] at he
    simp only [cond_true] at he
    split at he
    · rename_i ti hti
      split at he
      · rename_i z hz
        cases he
        obtain ⟨h1, j, h2, h3, h4, h5, h6⟩ := ok.ti t ti hti
        refine sat_bind' (sat_zero h2 (h5.trans hz) ?_)
        have hc := h6 z hz
        have := sat_newVar (P := P) (F := F) h (blt_lt hb) (t := t) (xv := z) (hc.sc nx) (n := n)
        rw [hc σ] at this
        exact sat_bind' (sat_mono _ this (fun a w' hp => hp) fun _ _ h => h)
      · cases he
    · cases he

theorem sat_box (h : HR P G σ H nx F w) {t : TypeId} {xv v : Value} {H' : AHeap} {nx' : Nat} (hx : Sc nx xv) (he : aBox t xv H nx = some (v, H', nx')) {n : Nat} :
    Sat P F n (Instr.box t (ren σ xv)) w (Post P G σ H nx F w v H' nx') NoE := by
  unfold aBox at he
  cases hb : Nat.blt nx (2 ^ HD) with
  | false => rw [hb] at he; cases he
  | true =>
    rw [hb] at he
    cases he
    exact sat_bind' (sat_mono _ (sat_newVar h (blt_lt hb) hx) (fun a w' hp => hp) fun _ _ h => h)

/-! ### addresses -/
noncomputable def aFieldAddr (env : Env) (s : TypeId) (pv : Value) (f : Nat) : Option Value :=
  match pv with
  | .pointer (some a) => match env.ti s with
    | some ti => match ti.und with
      | .struct fs => match fs[f]? with
        | some fd => match env.ti fd.type with
          | some tf => bif Nat.beq tf.size 0 then none else some (.pointer (some (a.add fd.offset)))
          | none => none
        | none => none
      | _ => none
    | none => none
  | _ => none

theorem sc_add {n : Nat} {a : Addr} {k : Nat} (h : a.block < n) : Sc n (.pointer (some (a.add k))) := by
  refine sc_pointer ?_
  unfold Addr.add; split <;> exact h
theorem add_block' (a : Addr) (k : Nat) : (a.add k).block = a.block := by unfold Addr.add; split <;> rfl

theorem sat_fieldAddr (ok : EnvOk P env) (h : HR P G σ H nx F w) {s : TypeId} {pv v : Value} {f : Nat} (hp : Sc nx pv) (he : aFieldAddr env s pv f = some v) {n : Nat} :
    Sat P F n (Instr.fieldAt s (ren σ pv) f) w (Post P G σ H nx F w v H nx) NoE := by
  unfold aFieldAddr at he
  split at he
  · rename_i a
    split at he
    · rename_i ti hti
      obtain ⟨h1, _⟩ := ok.ti s ti hti
      split at he
      · rename_i fs hund
        split at he
        · rename_i fd hfd
          split at he
          · rename_i tf htf
            obtain ⟨_, j, h2, h3, _⟩ := ok.ti _ tf htf
            cases hz : Nat.beq tf.size 0 with
            | true => rw [hz] at he; cases he
            | false =>
              rw [hz] at he
              cases he
              refine sat_bind' (sat_und h1 ?_)
              simp only [hund, hfd, ren_pointer]
              refine sat_bind' (sat_pure ?_)
              refine sat_bind' (sat_bind' (sat_size h2 ?_))
              have hne : ¬ j.size = 0 := by rw [h3]; intro e; rw [e] at hz; cases hz
              rw [if_neg hne]
              refine sat_pure (sat_pure (post_pure h (sc_add (sc_pointer_lt hp)) ?_))
              rw [ren_pointer, renA_add]
          · cases he
        · cases he
      · cases he
    · cases he
  · cases he

noncomputable def aField (env : Env) (s : TypeId) (xv : Value) (f : Nat) : Option Value :=
  match xv with
  | .agg cs => match env.ti s with
    | some ti => match ti.und with
      | .struct fs => match fs[f]? with
        | some fd => match env.ti fd.type with
          | some tf => aPart tf cs.toList fd.offset
          | none => none
        | none => none
      | _ => none
    | none => none
  | _ => none

theorem sat_part (ok : EnvOk P env) {t : TypeId} {tf : TI} (htf : env.ti t = some tf) {cs : Array Value} {o : Nat} {v : Value} (he : aPart tf cs.toList o = some v) {n : Nat} {Q : Value → World → Prop} {E : Value → World → Prop}
    (hq : (∀ m, Sc m (.agg cs) → Sc m v) → Q (ren σ v) w) : Sat P F n (part t (cs.map (ren σ)) o) w Q E := by
  obtain ⟨h1, j, h2, h3, _⟩ := ok.ti t tf htf
  refine sat_bind' (sat_isAgg h1 ?_)
  unfold aPart at he
  cases hagg : aggD tf.und with
  | true =>
    rw [hagg] at he
    simp only [cond_true] at he
    simp only [if_true]
    cases ht : takeK tf.size (dropK o cs.toList) with
    | none => rw [ht] at he; cases he
    | some l =>
      rw [ht] at he
      cases he
      obtain ⟨e1, e2⟩ := takeK_eq _ _ _ ht
      rw [dropK_eq] at e1 e2
      refine sat_bind' (sat_size h2 (sat_pure ?_))
      have hsc : ∀ m, Sc m (.agg cs) → Sc m (.agg ⟨l⟩) := fun m hm => sc_agg fun x hx => by
        have hx' : x ∈ l := by simpa using hx
        rw [e1] at hx'
        exact hm.agg x (by simpa using List.mem_of_mem_drop (List.mem_of_mem_take hx'))
      have := hq hsc
      have e : (cs.map (ren σ)).extract o (o + j.size) = (Array.mk l).map (ren σ) := by
        apply Array.toList_inj.1
        simp only [Array.toList_extract, Array.toList_map, List.extract_eq_take_drop, h3, Nat.add_sub_cancel_left, e1, List.map_take, List.map_drop]
      rw [ren_agg] at this
      rw [e]; exact this
  | false =>
    rw [hagg] at he
    simp only [cond_false, nthK_eq] at he
    simp only [Bool.false_eq_true, if_false]
    have hcs : cs[o]? = some v := by rw [← Array.getElem?_toList]; exact he
    rw [Array.getElem?_map, hcs]
    exact sat_pure (hq fun m hm => hm.agg v (Array.mem_of_getElem? hcs))

theorem sat_field (ok : EnvOk P env) (h : HR P G σ H nx F w) {s : TypeId} {xv v : Value} {f : Nat} (hx : Sc nx xv) (he : aField env s xv f = some v) {n : Nat} :
    Sat P F n (Instr.field s (ren σ xv) f) w (Post P G σ H nx F w v H nx) NoE := by
  unfold aField at he
  split at he
  · rename_i cs
    split at he
    · rename_i ti hti
      obtain ⟨h1, _⟩ := ok.ti s ti hti
      split at he
      · rename_i fs hund
        split at he
        · rename_i fd hfd
          split at he
          · rename_i tf htf
            refine sat_bind' (sat_und h1 ?_)
            simp only [hund, hfd, ren_agg]
            refine sat_bind' (sat_pure ?_)
            exact sat_part ok htf he fun hs => post_pure h (hs nx hx) rfl
          · cases he
        · cases he
      · cases he
    · cases he
  · cases he

noncomputable def aIndexAddr (env : Env) (t : TypeId) (xv iv : Value) : Option Value :=
  match iv with
  | .int _ (.ofNat i) => match env.ti t with
    | some ti => match ti.und, xv with
      | .slice el, .slice (some a) len _ => match env.ti el with
        | some te => bif Nat.blt i len then some (.pointer (some (a.add (i * te.size)))) else none
        | none => none
      | .array len el, .pointer (some a) => match env.ti el with
        | some te => bif Nat.blt i len then some (.pointer (some (a.add (i * te.size)))) else none
        | none => none
      | _, _ => none
    | none => none
  | _ => none

theorem sat_indexAddr (ok : EnvOk P env) (h : HR P G σ H nx F w) {t : TypeId} {xv iv v : Value} (hx : Sc nx xv) (he : aIndexAddr env t xv iv = some v) {n : Nat} :
    Sat P F n (Instr.indexAt t (ren σ xv) (ren σ iv)) w (Post P G σ H nx F w v H nx) NoE := by
  unfold aIndexAddr at he
  split at he
  · rename_i k i
    split at he
    · rename_i ti hti
      obtain ⟨h1, _⟩ := ok.ti t ti hti
      split at he
      · rename_i el a len cap hund
        split at he
        · rename_i te hte
          obtain ⟨_, j, h2, h3, _⟩ := ok.ti _ te hte
          cases hb : Nat.blt i len with
          | false => rw [hb] at he; cases he
          | true =>
            rw [hb] at he; cases he
            have hlt := blt_lt hb
            rw [ren_int]
            refine sat_bind' (sat_pure ?_)
            refine sat_bind' (sat_bind' (sat_und h1 ?_))
            simp only [hund, ren_slice]
            refine sat_bind' (sat_pure ?_)
            refine sat_bind' (sat_und h1 ?_)
            simp only [hund]
            have hc : (0 : Int) ≤ Int.ofNat i ∧ Int.ofNat i < (len : Int) := ⟨Int.natCast_nonneg i, Int.ofNat_lt.2 hlt⟩
            rw [if_pos hc]
            refine sat_bind' (sat_size h2 (sat_pure (post_pure h (sc_add (sc_slice_lt hx)) ?_)))
            rw [ren_pointer, renA_add, h3]; rfl
        · cases he
      · rename_i len el a hund
        split at he
        · rename_i te hte
          obtain ⟨_, j, h2, h3, _⟩ := ok.ti _ te hte
          cases hb : Nat.blt i len with
          | false => rw [hb] at he; cases he
          | true =>
            rw [hb] at he; cases he
            have hlt := blt_lt hb
            rw [ren_int]
            refine sat_bind' (sat_pure ?_)
            refine sat_bind' (sat_bind' (sat_und h1 ?_))
            simp only [hund, ren_pointer]
            refine sat_bind' (sat_pure ?_)
            refine sat_bind' (sat_pure ?_)
            refine sat_bind' (sat_und h1 ?_)
            simp only [hund]
            have hc : (0 : Int) ≤ Int.ofNat i ∧ Int.ofNat i < (len : Int) := ⟨Int.natCast_nonneg i, Int.ofNat_lt.2 hlt⟩
            rw [if_pos hc]
            refine sat_bind' (sat_size h2 (sat_pure (post_pure h (sc_add (sc_pointer_lt hx)) ?_)))
            rw [ren_pointer, renA_add, h3]; rfl
        · cases he
      · cases he
    · cases he
  · cases he
end
end Go.Proofs.Evz

/-
  ENGINE 6. Slices, arithmetic, comparisons, conversions, built-in len.
-/
namespace Go.Proofs.Evz
open Go Go.Conc

section
variable {P : Program} {env : Env} {G : Nat} {σ : Sub} {H : AHeap} {nx : Nat} {F : Foot} {w : World}

/-! ### slicing -/
noncomputable def aIdx : Option Value → Nat → Option Nat
  | none, d => some d
  | some (.int _ (.ofNat k)), _ => some k
  | _, _ => none

/-- Is the block one whose spare room is unknown? -/
noncomputable def aSure (H : AHeap) (b : Nat) : Bool :=
  match H.at b with
  | some (.cells _ _ gr _) => !gr
  | _ => false

noncomputable def aSlice (env : Env) (t : TypeId) (xv : Value) (lo hi : Option Value) (H : AHeap) : Option Value :=
  match env.ti t with
  | some ti => match ti.und, xv with
    | .string, .string s =>
      match aIdx hi s.data.toList.length, aIdx lo 0 with
      | some h, some l => bif Nat.ble l h && Nat.ble h s.data.toList.length then some (.string ⟨⟨(s.data.toList.drop l).take (h - l)⟩⟩) else none
      | _, _ => none
    | .slice el, .slice (some a) len cap =>
      match aIdx hi len, aIdx lo 0, env.ti el with
      | some h, some l, some te =>
        bif Nat.ble l h && Nat.ble h cap && (!(Nat.beq l cap) || Nat.beq l 0 || aSure H a.block) then
          some (.slice (some (bif Nat.beq l cap then a else a.add (l * te.size))) (h - l) (cap - l)) else none
      | _, _, _ => none
    | .slice el, .slice none len cap =>
      match aIdx hi len, aIdx lo 0, env.ti el with
      | some h, some l, some _ => bif Nat.ble l h && Nat.ble h cap then some (.slice none (h - l) (cap - l)) else none
      | _, _, _ => none
    | .array n el, .pointer (some a) =>
      match aIdx hi n, aIdx lo 0, env.ti el with
      | some h, some l, some te =>
        bif Nat.ble l h && Nat.ble h n && aSure H a.block then
          some (.slice (some (bif Nat.beq l n then a else a.add (l * te.size))) (h - l) (n - l)) else none
      | _, _, _ => none
    | _, _ => none
  | none => none

theorem sat_bound {v : Value} {y l : Nat} {code : BoundsCode} {Q : Nat → World → Prop} {E : Value → World → Prop} {n : Nat} {k : IntKind} (hv : v = .int k (.ofNat l)) (hl : l ≤ y) (hq : Q l w) : Sat P F n (Instr.sliceBound v y code) w Q E := by
  subst hv
  refine sat_bind' (sat_pure ?_)
  show Sat P F n (if 0 ≤ Int.ofNat l ∧ Int.ofNat l ≤ (y : Int) then pure (Int.ofNat l).toNat else _) w Q E
  rw [if_pos ⟨Int.natCast_nonneg l, Int.ofNat_le.2 hl⟩]
  exact hq

theorem sat_bounds {isSlice : Bool} {len cap h l : Nat} {lo hi : Option Value} (hh : aIdx hi len = some h) (hl : aIdx lo 0 = some l) (h1 : l ≤ h) (h2 : h ≤ cap)
    {Q : Nat × Nat × Nat → World → Prop} {E : Value → World → Prop} {n : Nat} (hq : Q (l, h, cap) w) : Sat P F n (Instr.sliceBounds isSlice len cap (lo.map (ren σ)) (hi.map (ren σ)) none) w Q E := by
  refine sat_bind' (sat_pure ?_)
  have fin : ∀ {f : Nat → Sem (Nat × Nat × Nat)}, f = (fun l => pure (l, h, cap)) → ∀ c : BoundsCode, Sat P F n (match lo.map (ren σ) with
      | some v => Instr.sliceBound v h c >>= f
      | none => pure 0 >>= f) w Q E := by
    rintro f rfl c
    cases lo with
    | none =>
      simp only [aIdx, Option.some.injEq] at hl; subst hl
      exact sat_bind' (sat_pure (sat_pure hq))
    | some v =>
      unfold aIdx at hl
      split at hl
      · rename_i e; cases e
      · rename_i k x e
        cases hl; cases e
        simp only [Option.map_some, ren_int]
        exact sat_bind' (sat_bound rfl h1 (sat_pure hq))
      · cases hl
  cases hi with
  | none =>
    simp only [aIdx, Option.some.injEq] at hh; subst hh
    refine sat_bind' (sat_pure ?_)
    exact fin rfl _
  | some v =>
    unfold aIdx at hh
    split at hh
    · rename_i e; cases e
    · rename_i k x e
      cases hh; cases e
      simp only [Option.map_some, ren_int]
      refine sat_bind' (sat_bound rfl h2 ?_)
      exact fin rfl _
    · cases hh

theorem beq_ne {a b : Nat} (h : Nat.beq a b = false) : a ≠ b := fun e => by rw [e, Nat.beq_refl] at h; cases h
theorem ble_le {a b : Nat} (h : Nat.ble a b = true) : a ≤ b := Nat.le_of_ble_eq_true h

theorem extract_bytes (s : ByteArray) (l h : Nat) : s.extract l h = ⟨⟨(s.data.toList.drop l).take (h - l)⟩⟩ := by
  apply ByteArray.ext
  apply Array.toList_inj.1
  simp [List.extract_eq_take_drop]

theorem aSure_slack (h : HR P G σ H nx F w) {b : Nat} (hb : b < nx) (hs : aSure H b = true) : (σ b).slack = 0 := by
  unfold aSure at hs
  split at hs
  · rename_i t cs gr ro ho
    obtain ⟨_, c, fr, g1, g2, g3, g4, g5, g6⟩ := h.live b _ (Nat.lt_of_lt_of_le hb h.top) ho
    exact g5 (by simpa using hs)
  · cases hs

/-- A slice cut at its end, of a block whose room is not known: a place of its own. -/
noncomputable def aSliceG (env : Env) (t : TypeId) (xv : Value) (lo hi : Option Value) (H : AHeap) (nx : Nat) : Option (Value × AHeap × Nat) :=
  match env.ti t with
  | some ti => match ti.und, xv with
    | .slice el, .slice (some _) len cap =>
      match aIdx hi len, aIdx lo 0, env.ti el with
      | some h, some l, some _ => bif Nat.ble l h && Nat.ble h cap && Nat.beq l cap && Nat.blt nx (2 ^ HD) then some (.slice (some ⟨nx, 0, none⟩) 0 0, H, nx + 1) else none
      | _, _, _ => none
    | _, _ => none
  | none => none

theorem sat_sliceG (ok : EnvOk P env) (h : HR P G σ H nx F w) {t : TypeId} {xv v : Value} {lo hi : Option Value} {H' : AHeap} {nx' : Nat} (he : aSliceG env t xv lo hi H nx = some (v, H', nx')) {n : Nat} :
    Sat P F n (Instr.sliceAt t (ren σ xv) (lo.map (ren σ)) (hi.map (ren σ)) none) w (Post P G σ H nx F w v H' nx') NoE := by
  unfold aSliceG at he
  split at he
  · rename_i ti hti
    obtain ⟨h1, _⟩ := ok.ti t ti hti
    split at he
    · rename_i el a len cap hund
      split at he
      · rename_i hh ll te e1 e2 hte
        obtain ⟨_, j, h2, h3, _⟩ := ok.ti _ te hte
        cases hb : (Nat.ble ll hh && Nat.ble hh cap && Nat.beq ll cap && Nat.blt nx (2 ^ HD)) with
        | false => rw [hb] at he; cases he
        | true =>
          rw [hb] at he
          simp only [cond_true, Option.some.injEq, Prod.mk.injEq] at he
          obtain ⟨rfl, rfl, rfl⟩ := he
          simp only [Bool.and_eq_true] at hb
          have hl := ble_le hb.1.1.1
          have hc := ble_le hb.1.1.2
          have hlc := Nat.eq_of_beq_eq_true hb.1.2
          have htop : nx + 1 ≤ 2 ^ HD := by
            have : nx < 2 ^ HD := Nat.le_of_ble_eq_true hb.2
            omega
          refine sat_bind' (sat_und h1 ?_)
          simp only [hund, ren_slice]
          refine sat_bind' (sat_und h1 ?_)
          simp only [hund]
          refine sat_bind' (sat_bounds (h := hh) (l := ll) e1 e2 hl (by omega) ?_)
          refine sat_bind' (sat_size h2 (sat_pure ?_))
          dsimp only
          have key : ∀ (b : Addr), b.spot = none → ∀ x y : Nat, x = 0 → y = (σ a.block).slack → Post P G σ H nx F w (.slice (some ⟨nx, 0, none⟩) 0 0) H (nx + 1) (.slice (some b) x y) w := by
            rintro ⟨bb, bo, bs⟩ hbs x y rfl rfl
            simp only at hbs
            subst hbs
            refine ⟨upd σ nx ⟨bb, bo, (σ a.block).slack⟩, upd_agree _ _ _, Nat.le_succ _, ?_, sc_slice (Nat.lt_succ_self _), ?_, ?_⟩
            · rw [ren_slice, upd_at]; simp [renA, upd_at]
            · rw [grow_self]; exact h.ext (upd_agree _ _ _) (Nat.le_succ _) htop
            · rw [grow_self]; exact Keeps.ext h (upd_agree _ _ _)
          have hx : hh - ll = 0 := by omega
          have hy : cap + (σ a.block).slack - ll = (σ a.block).slack := by omega
          split
          · exact key _ rfl _ _ hx hy
          · refine key _ ?_ _ _ hx hy
            unfold Addr.add; split <;> simp_all [renA]
      · cases he
    · cases he
  · cases he

/-- A slice of three bounds: a place of its own. -/
noncomputable def aSliceH (env : Env) (t : TypeId) (xv : Value) (lo : Option Value) (hi mx : Value) (H : AHeap) (nx : Nat) : Option (Value × AHeap × Nat) :=
  match env.ti t with
  | some ti => match ti.und, xv with
    | .slice el, .slice (some _) _ cap =>
      match aIdx (some mx) 0, aIdx (some hi) 0, aIdx lo 0, env.ti el with
      | some m, some h, some l, some _ => bif Nat.ble l h && Nat.ble h m && Nat.ble m cap && Nat.blt nx (2 ^ HD) then some (.slice (some ⟨nx, 0, none⟩) (h - l) (m - l), H, nx + 1) else none
      | _, _, _, _ => none
    | _, _ => none
  | none => none

theorem idx_int {v : Value} {x : Nat} (h : aIdx (some v) 0 = some x) : ∃ k, v = .int k (.ofNat x) := by
  unfold aIdx at h
  split at h
  · rename_i e; cases e
  · rename_i k y e
    cases h; cases e
    exact ⟨k, rfl⟩
  · cases h

theorem sat_sliceH (ok : EnvOk P env) (h : HR P G σ H nx F w) {t : TypeId} {xv v hi mx : Value} {lo : Option Value} {H' : AHeap} {nx' : Nat} (he : aSliceH env t xv lo hi mx H nx = some (v, H', nx')) {n : Nat} :
    Sat P F n (Instr.sliceAt t (ren σ xv) (lo.map (ren σ)) (some (ren σ hi)) (some (ren σ mx))) w (Post P G σ H nx F w v H' nx') NoE := by
  unfold aSliceH at he
  split at he
  · rename_i ti hti
    obtain ⟨h1, _⟩ := ok.ti t ti hti
    split at he
    · rename_i el a len cap hund
      split at he
      · rename_i mm hh ll te e0 e1 e2 hte
        obtain ⟨_, j, h2, h3, _⟩ := ok.ti _ te hte
        cases hb : (Nat.ble ll hh && Nat.ble hh mm && Nat.ble mm cap && Nat.blt nx (2 ^ HD)) with
        | false => rw [hb] at he; cases he
        | true =>
          rw [hb] at he
          simp only [cond_true, Option.some.injEq, Prod.mk.injEq] at he
          obtain ⟨rfl, rfl, rfl⟩ := he
          simp only [Bool.and_eq_true] at hb
          have hl := ble_le hb.1.1.1
          have hc := ble_le hb.1.1.2
          have hm := ble_le hb.1.2
          have htop : nx + 1 ≤ 2 ^ HD := by
            have : nx < 2 ^ HD := Nat.le_of_ble_eq_true hb.2
            omega
          obtain ⟨k0, rfl⟩ := idx_int e0
          obtain ⟨k1, rfl⟩ := idx_int e1
          refine sat_bind' (sat_und h1 ?_)
          simp only [hund, ren_slice, ren_int]
          refine sat_bind' (sat_und h1 ?_)
          simp only [hund]
          have hbnd : ∀ {Q : Nat × Nat × Nat → World → Prop} {E : Value → World → Prop}, Q (ll, hh, mm) w → Sat P F n (Instr.sliceBounds true len (cap + (σ a.block).slack) (lo.map (ren σ)) (some (.int k1 (.ofNat hh))) (some (.int k0 (.ofNat mm)))) w Q E := by
            intro Q E hq
            refine sat_bind' (sat_bound (l := mm) (k := k0) rfl (by omega) ?_)
            refine sat_bind' (sat_bound (l := hh) (k := k1) rfl hc ?_)
            cases lo with
            | none =>
              simp only [aIdx, Option.some.injEq] at e2; subst e2
              exact sat_bind' (sat_pure (sat_pure hq))
            | some lv =>
              obtain ⟨k2, rfl⟩ : ∃ k, lv = .int k (.ofNat ll) := by
                unfold aIdx at e2
                split at e2
                · rename_i e; cases e
                · rename_i k y e
                  cases e2; cases e
                  exact ⟨k, rfl⟩
                · cases e2
              simp only [Option.map_some, ren_int]
              exact sat_bind' (sat_bound (l := ll) (k := k2) rfl hl (sat_pure hq))
          refine sat_bind' (hbnd ?_)
          refine sat_bind' (sat_size h2 (sat_pure ?_))
          dsimp only
          have key : ∀ (b : Addr), b.spot = none → Post P G σ H nx F w (.slice (some ⟨nx, 0, none⟩) (hh - ll) (mm - ll)) H (nx + 1) (.slice (some b) (hh - ll) (mm - ll)) w := by
            rintro ⟨bb, bo, bs⟩ hbs
            simp only at hbs
            subst hbs
            refine ⟨upd σ nx ⟨bb, bo, 0⟩, upd_agree _ _ _, Nat.le_succ _, ?_, sc_slice (Nat.lt_succ_self _), ?_, ?_⟩
            · rw [ren_slice, upd_at]; simp [renA, upd_at]
            · rw [grow_self]; exact h.ext (upd_agree _ _ _) (Nat.le_succ _) htop
            · rw [grow_self]; exact Keeps.ext h (upd_agree _ _ _)
          split
          · exact key _ rfl
          · refine key _ ?_
            unfold Addr.add; split <;> simp_all [renA]
      · cases he
    · cases he
  · cases he

theorem sat_slice (ok : EnvOk P env) (h : HR P G σ H nx F w) {t : TypeId} {xv v : Value} {lo hi : Option Value} (hx : Sc nx xv) (he : aSlice env t xv lo hi H = some v) {n : Nat} :
    Sat P F n (Instr.sliceAt t (ren σ xv) (lo.map (ren σ)) (hi.map (ren σ)) none) w (Post P G σ H nx F w v H nx) NoE := by
  unfold aSlice at he
  split at he
  · rename_i ti hti
    obtain ⟨h1, _⟩ := ok.ti t ti hti
    split at he
    · rename_i s hund
      split at he
      · rename_i hh ll e1 e2
        cases hb : (Nat.ble ll hh && Nat.ble hh s.data.toList.length) with
        | false => rw [hb] at he; cases he
        | true =>
          rw [hb] at he; cases he
          rw [Bool.and_eq_true] at hb
          refine sat_bind' (sat_und h1 ?_)
          simp only [hund, ren_string]
          refine sat_bind' (sat_und h1 ?_)
          simp only [hund]
          have hsz : s.data.toList.length = s.size := by cases s; rfl
          refine sat_bind' (sat_bounds (h := hh) (l := ll) (by rw [← hsz]; exact e1) e2 (ble_le hb.1) (by rw [← hsz]; exact ble_le hb.2) ?_)
          refine sat_pure (post_pure h (sc_string _ _) ?_)
          rw [ren_string, extract_bytes]
      · cases he
    · rename_i el a len cap hund
      split at he
      · rename_i hh ll te e1 e2 hte
        obtain ⟨_, j, h2, h3, _⟩ := ok.ti _ te hte
        cases hb : (Nat.ble ll hh && Nat.ble hh cap && (!(Nat.beq ll cap) || Nat.beq ll 0 || aSure H a.block)) with
        | false => rw [hb] at he; cases he
        | true =>
          rw [hb] at he; cases he
          rw [Bool.and_eq_true, Bool.and_eq_true] at hb
          have hl := ble_le hb.1.1
          have hc := ble_le hb.1.2
          refine sat_bind' (sat_und h1 ?_)
          simp only [hund, ren_slice]
          refine sat_bind' (sat_und h1 ?_)
          simp only [hund]
          refine sat_bind' (sat_bounds (h := hh) (l := ll) e1 e2 hl (by omega) ?_)
          refine sat_bind' (sat_size h2 (sat_pure ?_))
          dsimp only
          have hid := sc_slice_lt hx
          refine post_pure h ?_ ?_
          · refine sc_slice ?_
            cases Nat.beq ll cap
            · rw [cond_false, add_block']; exact hid
            · exact hid
          · rw [ren_slice]
            cases hlc : Nat.beq ll cap with
            | false =>
              have hne := beq_ne hlc
              rw [if_neg (by omega)]
              simp only [cond_false, Option.map_some, renA_add, h3, add_block']
              congr 1
              omega
            | true =>
              have heq := Nat.eq_of_beq_eq_true hlc
              simp only [cond_true]
              rw [hlc] at hb
              simp only [Bool.not_true, Bool.false_or, Bool.or_eq_true] at hb
              rcases hb.2 with h0 | h0
              · have := Nat.eq_of_beq_eq_true h0
                subst this
                subst heq
                split
                · congr 1
                · simp only [Option.map_some, Nat.zero_mul]
                  congr 1
              · have hs := aSure_slack h hid h0
                rw [if_pos (by omega), hs]
                congr 1
      · cases he
    · rename_i el len cap hund
      split at he
      · rename_i hh ll te e1 e2 hte
        obtain ⟨_, j, h2, h3, _⟩ := ok.ti _ te hte
        cases hb : (Nat.ble ll hh && Nat.ble hh cap) with
        | false => rw [hb] at he; cases he
        | true =>
          rw [hb] at he; cases he
          rw [Bool.and_eq_true] at hb
          have hl := ble_le hb.1
          have hc := ble_le hb.2
          refine sat_bind' (sat_und h1 ?_)
          simp only [hund, ren_slice_none]
          refine sat_bind' (sat_und h1 ?_)
          simp only [hund]
          refine sat_bind' (sat_bounds (h := hh) (l := ll) e1 e2 hl hc ?_)
          refine sat_bind' (sat_size h2 (sat_pure ?_))
          dsimp only
          refine post_pure h (fun _ _ _ => by simp) ?_
          rw [ren_slice_none]
          split <;> rfl
      · cases he
    · rename_i m el a hund
      split at he
      · rename_i hh ll te e1 e2 hte
        obtain ⟨_, j, h2, h3, _⟩ := ok.ti _ te hte
        cases hb : (Nat.ble ll hh && Nat.ble hh m && aSure H a.block) with
        | false => rw [hb] at he; cases he
        | true =>
          rw [hb] at he; cases he
          rw [Bool.and_eq_true, Bool.and_eq_true] at hb
          have hl := ble_le hb.1.1
          have hc := ble_le hb.1.2
          have hid := sc_pointer_lt hx
          have hs := aSure_slack h hid hb.2
          refine sat_bind' (sat_und h1 ?_)
          simp only [hund, ren_pointer]
          refine sat_bind' (sat_pure ?_)
          refine sat_bind' (sat_bounds (h := hh) (l := ll) e1 e2 hl hc ?_)
          refine sat_bind' (sat_size h2 (sat_pure ?_))
          dsimp only
          refine post_pure h ?_ ?_
          · refine sc_slice ?_
            cases Nat.beq ll m
            · rw [cond_false, add_block']; exact hid
            · exact hid
          · rw [ren_slice]
            cases hlc : Nat.beq ll m with
            | false =>
              have hne := beq_ne hlc
              rw [if_neg (by omega)]
              simp only [cond_false, renA_add, h3, add_block', hs, Nat.add_zero]
            | true =>
              have heq := Nat.eq_of_beq_eq_true hlc
              rw [if_pos heq.symm]
              simp only [cond_true, hs, Nat.add_zero]
      · cases he
    · cases he
  · cases he
end
end Go.Proofs.Evz

/-
  ENGINE 7. Index, comparisons, arithmetic, conversions, len.
-/
namespace Go.Proofs.Evz
open Go Go.Conc

def nthB : List UInt8 → Nat → Option UInt8
  | [], _ => none
  | b :: _, 0 => some b
  | _ :: l, n + 1 => nthB l n
theorem nthB_eq : ∀ (l : List UInt8) (n : Nat), nthB l n = l[n]?
  | [], _ => rfl
  | _ :: _, 0 => rfl
  | _ :: l, n + 1 => by rw [nthB, nthB_eq l n]; rfl

section
variable {P : Program} {env : Env} {G : Nat} {σ : Sub} {H : AHeap} {nx : Nat} {F : Foot} {w : World}

noncomputable def aIndex (env : Env) (t : TypeId) (xv iv : Value) : Option Value :=
  match iv, env.ti t with
  | .int _ (.ofNat i), some ti => match ti.und, xv with
    | .string, .string s => match nthB s.data.toList i with
      | some b => some (.int .u8 (Int.ofNat b.toNat))
      | none => none
    | .array len el, .agg cs => match env.ti el with
      | some te => bif Nat.blt i len then aPart te cs.toList (i * te.size) else none
      | none => none
    | _, _ => none
  | _, _ => none

theorem bytes_get (s : ByteArray) (i : Nat) : s[i]? = s.data.toList[i]? := by
  have e : s.size = s.data.toList.length := by cases s; rfl
  by_cases h : i < s.size
  · rw [getElem?_pos s i h, List.getElem?_eq_getElem (by rw [← e]; exact h)]
    rfl
  · rw [getElem?_neg s i h, List.getElem?_eq_none (by rw [← e]; omega)]

theorem sat_index (ok : EnvOk P env) (h : HR P G σ H nx F w) {t : TypeId} {xv iv v : Value} (hx : Sc nx xv) (he : aIndex env t xv iv = some v) {n : Nat} :
    Sat P F n (Instr.index t (ren σ xv) (ren σ iv)) w (Post P G σ H nx F w v H nx) NoE := by
  unfold aIndex at he
  split at he
  · rename_i k i ti hti
    obtain ⟨h1, _⟩ := ok.ti t ti hti
    rw [ren_int]
    refine sat_bind' (sat_pure ?_)
    split at he
    · rename_i s hund
      split at he
      · rename_i b hb
        cases he
        refine sat_bind' (sat_und h1 ?_)
        simp only [hund, ren_string]
        have e : (if 0 ≤ Int.ofNat i then s[(Int.ofNat i).toNat]? else none) = some b := by
          rw [if_pos (show (0 : Int) ≤ Int.ofNat i from Int.natCast_nonneg i), ← hb, nthB_eq]
          exact bytes_get s i
        rw [e]
        exact sat_pure (post_pure h (sc_int _ _ _) (by rw [ren_int]; rfl))
      · cases he
    · rename_i len el cs hund
      split at he
      · rename_i te hte
        obtain ⟨_, j, h2, h3, _⟩ := ok.ti _ te hte
        cases hb : Nat.blt i len with
        | false => rw [hb] at he; cases he
        | true =>
          rw [hb] at he
          refine sat_bind' (sat_und h1 ?_)
          simp only [hund, ren_agg]
          rw [if_pos ⟨Int.natCast_nonneg i, Int.ofNat_lt.2 (blt_lt hb)⟩]
          refine sat_bind' (sat_size h2 ?_)
          rw [h3]
          exact sat_part ok hte he fun hs => post_pure h (hs nx hx) rfl
      · cases he
    · cases he
  · cases he

/-! ### arithmetic on numbers -/
/-- Operations on two ints or two strings whose tree is a value. -/
def beqB : List UInt8 → List UInt8 → Bool
  | [], [] => true
  | a :: x, b :: y => bif Nat.beq a.toNat b.toNat then beqB x y else false
  | _, _ => false
theorem beqB_eq : ∀ (x y : List UInt8), beqB x y = (x == y)
  | [], [] => rfl
  | [], _ :: _ => rfl
  | _ :: _, [] => rfl
  | a :: x, b :: y => by
    rw [beqB, beqB_eq x y]
    have : Nat.beq a.toNat b.toNat = (a == b) := by
      by_cases e : a = b
      · subst e; simp
      · have : a.toNat ≠ b.toNat := fun h => e (UInt8.toNat_inj.1 h)
        rw [beq_eq_false_iff_ne.2 e]
        cases hbb : Nat.beq a.toNat b.toNat with
      | false => rfl
      | true => exact absurd (Nat.eq_of_beq_eq_true hbb) this
    rw [this]
    cases hab : (a == b) <;> simp [hab]

noncomputable def aStr (op : BinOp) (a b : ByteArray) : Option Value :=
  match op with
  | .add => bif Nat.blt (a.data.toList.length + b.data.toList.length) 1000000 then some (.string ⟨⟨a.data.toList ++ b.data.toList⟩⟩) else none
  | .eql => some (.bool (beqB a.data.toList b.data.toList))
  | .neq => some (.bool (!beqB a.data.toList b.data.toList))
  | .lss => some (.bool (Op.bytesLess a.data.toList b.data.toList))
  | .leq => some (.bool (Op.bytesLess a.data.toList b.data.toList || beqB a.data.toList b.data.toList))
  | .gtr => some (.bool (!(Op.bytesLess a.data.toList b.data.toList || beqB a.data.toList b.data.toList)))
  | .geq => some (.bool (!(Op.bytesLess a.data.toList b.data.toList)))
  | _ => none

theorem sat_str {op : BinOp} {a b : ByteArray} {v : Value} (he : aStr op a b = some v) {Q : Value → World → Prop} {E : Value → World → Prop} {n : Nat} (hq : Q v w) : Sat P F n (Op.stringOp op a b) w Q E := by
  have e1 : (a.toList == b.toList) = beqB a.data.toList b.data.toList := by rw [beqB_eq, ByteArray.toList_eq, ByteArray.toList_eq]
  unfold Op.stringOp
  rw [e1, ByteArray.toList_eq, ByteArray.toList_eq]
  cases op <;> simp only [aStr, Option.some.injEq, reduceCtorEq] at he
  case add =>
    cases hb : Nat.blt (a.data.toList.length + b.data.toList.length) 1000000 with
    | false => rw [hb] at he; cases he
    | true =>
      rw [hb] at he
      simp only [cond_true, Option.some.injEq] at he
      have hlt := blt_lt hb
      have hs : ¬ (((a.size + b.size : Nat) : Int) > IntKind.i64.max) := by
        have ea : a.data.toList.length = a.size := by cases a; rfl
        have eb : b.data.toList.length = b.size := by cases b; rfl
        have : IntKind.i64.max = 9223372036854775807 := by decide
        rw [this]; omega
      simp only
      rw [if_neg hs]
      subst he
      have : a ++ b = ⟨⟨a.data.toList ++ b.data.toList⟩⟩ := by
        apply ByteArray.ext; apply Array.toList_inj.1; simp
      rw [this]
      exact hq
  all_goals (subst he; exact hq)

/-- '==' at types that are not numbers or texts. -/
noncomputable def aEqV (env : Env) (t : TypeId) (a b : Value) : Option Bool :=
  match env.ti t with
  | some ti => match ti.und, a, b with
    | .bool, .bool x, .bool y => some (x == y)
    | .pointer _, .pointer none, .pointer y => some y.isNone
    | .pointer _, .pointer (some _), .pointer none => some false
    | .interface _, .nilIface, .nilIface => some true
    | .interface _, .nilIface, .iface _ _ => some false
    | .interface _, .iface _ _, .nilIface => some false
    | .slice _, .slice none _ _, .slice y _ _ => some y.isNone
    | .slice _, .slice (some _) _ _, .slice none _ _ => some false
    | .map _ _, .map none, .map y => some y.isNone
    | .map _ _, .map (some _), .map none => some false
    | .func _ _ _, .nilFunc, .nilFunc => some true
    | .func _ _ _, .nilFunc, .func _ _ _ => some false
    | .func _ _ _, .func _ _ _, .nilFunc => some false
    | _, _, _ => none
  | none => none

theorem sat_eqV (ok : EnvOk P env) {t : TypeId} {a b : Value} {r : Bool} (he : aEqV env t a b = some r) {Q : Bool → World → Prop} {E : Value → World → Prop} {n : Nat} (hq : Q r w) : Sat P F n (Op.equal t (ren σ a) (ren σ b)) w Q E := by
  unfold aEqV at he
  show Sat P F n (Op.equalIn (9999 + 1) t (ren σ a) (ren σ b)) w Q E
  split at he
  · rename_i ti hti
    obtain ⟨h1, _⟩ := ok.ti t ti hti
    refine sat_bind' (sat_und h1 ?_)
    split at he
    · rename_i x y hund; cases he; simp only [hund, ren_bool]; exact hq
    · rename_i e y hund; cases he; cases y <;> (simp only [hund, ren_pointer_none, ren_pointer]; exact hq)
    · rename_i e x hund; cases he; simp only [hund, ren_pointer_none, ren_pointer]; exact hq
    · rename_i hund; cases he; simp only [hund, ren_nilIface]; exact hq
    · rename_i hund; cases he; simp only [hund, ren_nilIface, ren_iface]; exact hq
    · rename_i hund; cases he; simp only [hund, ren_nilIface, ren_iface]; exact hq
    · rename_i y _ _ hund; cases he; cases y <;> (simp only [hund, ren_slice_none, ren_slice]; exact hq)
    · rename_i hund; cases he; simp only [hund, ren_slice_none, ren_slice]; exact hq
    · rename_i y hund; cases he; cases y <;> (simp only [hund, ren_map_none, ren_map]; exact hq)
    · rename_i hund; cases he; simp only [hund, ren_map_none, ren_map]; exact hq
    · rename_i hund; cases he; simp only [hund, ren_nilFunc]; exact hq
    · rename_i hund; cases he; simp only [hund, ren_nilFunc, ren_func]; exact hq
    · rename_i hund; cases he; simp only [hund, ren_nilFunc, ren_func]; exact hq
    · cases he
  · cases he

def isC : Operand → Bool
  | .const _ => true
  | _ => false

/-- A binary operation: the operands, and what they hold. -/
noncomputable def aBin (env : Env) (op : BinOp) (t : TypeId) (xo yo : Operand) (a b : Value) : Option Value :=
  match a, b with
  | .int _ _, .int _ _ => pureOf (Go.binOp op t a b)
  | .string x, .string y => aStr op x y
  | .agg _, _ => none
  | .nilIface, .nilIface => bif isC xo || isC yo then (match op with
      | .eql => match aEqV env t a b with | some r => some (.bool r) | none => none
      | .neq => match aEqV env t a b with | some r => some (.bool (!r)) | none => none
      | _ => none) else none
  | _, _ => match op with
      | .eql => match aEqV env t a b with | some r => some (.bool r) | none => none
      | .neq => match aEqV env t a b with | some r => some (.bool (!r)) | none => none
      | _ => none

theorem sc_of_pure_binop {op : BinOp} {t : TypeId} {k k' : IntKind} {a b : Int} {v : Value} (he : pureOf (Go.binOp op t (.int k a) (.int k' b)) = some v) : Closedv v := by
  have key : ∀ (s : Sem Value), (s = Go.binOp op t (.int k a) (.int k' b)) → (∀ r, s = .pure r → Closedv r) → Closedv v := by
    intro s hs h
    subst hs
    cases hb : Go.binOp op t (.int k a) (.int k' b) <;> rw [hb] at he <;> simp only [pureOf, Option.some.injEq, reduceCtorEq] at he
    subst he
    exact h _ hb
  refine key _ rfl ?_
  intro r hr
  by_cases hk : k = k'
  · subst hk
    cases op <;> simp [Go.binOp, Op.shift, Op.intArith, Op.intDiv, Op.intBits, Op.intCmp] at hr
    all_goals first
      | (obtain rfl := hr; intro σ; simp)
      | (split at hr <;> first | (cases hr; intro σ; simp) | cases hr)
      | (cases hr; intro σ; simp)
  · cases op <;> simp [Go.binOp, hk, Op.shift, stuck] at hr
    all_goals first
      | (obtain rfl := hr; intro σ; simp)
      | (split at hr <;> first | (cases hr; intro σ; simp) | cases hr)


theorem sat_guard {op : BinOp} {t : TypeId} {xo yo : Operand} {a b : Value} {α : Type} {s : Sem α} {Q : α → World → Prop} {E : Value → World → Prop} {n : Nat} (h1 : ∀ x y, a = .agg x → b = .agg y → False)
    (h2 : a = .nilIface → b = .nilIface → (isC xo || isC yo) = true) (hs : Sat P F n s w Q E) : Sat P F n (eqGuard op t xo yo (ren σ a) (ren σ b) >>= fun _ => s) w Q E := by
  refine sat_bind' ?_
  unfold eqGuard
  cases op <;> try exact hs
  all_goals
    simp only [Bool.not_true, Bool.false_eq_true, if_false]
    cases a <;> try (simp only [ren_bool, ren_int, ren_float, ren_complex, ren_string, ren_func, ren_nilFunc, ren_iface, ren_tuple]; exact hs)
    case pointer x => cases x <;> (simp only [ren_pointer, ren_pointer_none]; exact hs)
    case slice x _ _ => cases x <;> (simp only [ren_slice, ren_slice_none]; exact hs)
    case map x => cases x <;> (simp only [ren_map, ren_map_none]; exact hs)
    case chan x => cases x <;> (simp only [ren_chan, ren_chan_none]; exact hs)
    case nilIface =>
      cases b <;> try (simp only [ren_nilIface, ren_bool, ren_int, ren_float, ren_complex, ren_string, ren_func, ren_nilFunc, ren_iface, ren_tuple, ren_agg]; exact hs)
      case pointer x => cases x <;> (simp only [ren_nilIface, ren_pointer, ren_pointer_none]; exact hs)
      case slice x _ _ => cases x <;> (simp only [ren_nilIface, ren_slice, ren_slice_none]; exact hs)
      case map x => cases x <;> (simp only [ren_nilIface, ren_map, ren_map_none]; exact hs)
      case chan x => cases x <;> (simp only [ren_nilIface, ren_chan, ren_chan_none]; exact hs)
      case nilIface =>
        simp only [ren_nilIface]
        have hc := h2 rfl rfl
        cases xo <;> cases yo <;> first | exact hs | exact absurd hc (by simp [isC])
    case agg x =>
      cases b <;> try (simp only [ren_agg, ren_bool, ren_int, ren_float, ren_complex, ren_string, ren_func, ren_nilFunc, ren_iface, ren_tuple, ren_nilIface]; exact hs)
      case pointer x => cases x <;> (simp only [ren_agg, ren_pointer, ren_pointer_none]; exact hs)
      case slice x _ _ => cases x <;> (simp only [ren_agg, ren_slice, ren_slice_none]; exact hs)
      case map x => cases x <;> (simp only [ren_agg, ren_map, ren_map_none]; exact hs)
      case chan x => cases x <;> (simp only [ren_agg, ren_chan, ren_chan_none]; exact hs)
      case agg y => exact (h1 _ _ rfl rfl).elim

theorem binop_eq {t : TypeId} {a b : Value} {r : Bool} (hr : aEqV env t a b = some r) :
    Go.binOp .eql t (ren σ a) (ren σ b) = (do pure (.bool (← Op.equal t (ren σ a) (ren σ b)))) ∧ Go.binOp .neq t (ren σ a) (ren σ b) = (do pure (.bool (!(← Op.equal t (ren σ a) (ren σ b))))) := by
  unfold aEqV at hr
  split at hr
  · split at hr
    · simp only [ren_bool]; exact ⟨rfl, rfl⟩
    · rename_i y _; cases y <;> (simp only [ren_pointer_none, ren_pointer]; exact ⟨rfl, rfl⟩)
    · simp only [ren_pointer_none, ren_pointer]; exact ⟨rfl, rfl⟩
    · simp only [ren_nilIface]; exact ⟨rfl, rfl⟩
    · simp only [ren_nilIface, ren_iface]; exact ⟨rfl, rfl⟩
    · simp only [ren_nilIface, ren_iface]; exact ⟨rfl, rfl⟩
    · rename_i y _ _ _; cases y <;> (simp only [ren_slice_none, ren_slice]; exact ⟨rfl, rfl⟩)
    · simp only [ren_slice_none, ren_slice]; exact ⟨rfl, rfl⟩
    · rename_i y _; cases y <;> (simp only [ren_map_none, ren_map]; exact ⟨rfl, rfl⟩)
    · simp only [ren_map_none, ren_map]; exact ⟨rfl, rfl⟩
    · simp only [ren_nilFunc]; exact ⟨rfl, rfl⟩
    · simp only [ren_nilFunc, ren_func]; exact ⟨rfl, rfl⟩
    · simp only [ren_nilFunc, ren_func]; exact ⟨rfl, rfl⟩
    · cases hr
  · cases hr

theorem sat_bin (ok : EnvOk P env) (h : HR P G σ H nx F w) {op : BinOp} {t : TypeId} {xo yo : Operand} {a b v : Value} (he : aBin env op t xo yo a b = some v) {n : Nat} :
    Sat P F n (do eqGuard op t xo yo (ren σ a) (ren σ b); Go.binOp op t (ren σ a) (ren σ b)) w (Post P G σ H nx F w v H nx) NoE := by
  have eqv : ∀ (r : Bool), aEqV env t a b = some r → (∀ k x k' y, a = .int k x → b = .int k' y → False) → (∀ x y, a = .string x → b = .string y → False) →
      ((op = .eql ∧ v = .bool r) ∨ (op = .neq ∧ v = .bool (!r))) → Sat P F n (Go.binOp op t (ren σ a) (ren σ b)) w (Post P G σ H nx F w v H nx) NoE := by
    intro r hr h1 h2 hop
    have hq : Sat P F n (do pure (.bool (← Op.equal t (ren σ a) (ren σ b)))) w (Post P G σ H nx F w (.bool r) H nx) NoE :=
      sat_bind' (sat_eqV ok hr (sat_pure (post_pure h (sc_bool _ _) (by simp))))
    have hq' : Sat P F n (do pure (.bool (!(← Op.equal t (ren σ a) (ren σ b))))) w (Post P G σ H nx F w (.bool (!r)) H nx) NoE :=
      sat_bind' (sat_eqV ok hr (sat_pure (post_pure h (sc_bool _ _) (by simp))))
    have key := binop_eq (σ := σ) hr
    rcases hop with ⟨rfl, rfl⟩ | ⟨rfl, rfl⟩
    · rw [key.1]; exact hq
    · rw [key.2]; exact hq'
  unfold aBin at he
  split at he
  · rename_i k x k' y
    refine sat_guard (fun _ _ e => by cases e) (fun e => by cases e) ?_
    rw [ren_int, ren_int]
    exact sat_pureOf he (post_pure h ((sc_of_pure_binop he).sc nx) (sc_of_pure_binop he σ).symm)
  · rename_i x y
    refine sat_guard (fun _ _ e => by cases e) (fun e => by cases e) ?_
    rw [ren_string, ren_string]
    have hv : Closedv v := by
      cases op <;> simp only [aStr, Option.some.injEq, reduceCtorEq] at he
      case add =>
        cases hb : Nat.blt (x.data.toList.length + y.data.toList.length) 1000000 <;> rw [hb] at he <;> cases he
        intro σ; simp
      all_goals (subst he; intro σ; simp)
    have : Go.binOp op t (.string x) (.string y) = Op.stringOp op x y := by cases op <;> rfl
    rw [this]
    exact sat_str he (post_pure h (hv.sc nx) (hv σ).symm)
  · cases he
  · cases hc : (isC xo || isC yo) with
    | false => rw [hc] at he; cases he
    | true =>
      rw [hc] at he
      simp only [cond_true] at he
      refine sat_guard (fun _ _ e => by cases e) (fun _ _ => hc) ?_
      split at he
      · split at he
        · rename_i r hr; cases he
          exact eqv r hr (fun _ _ _ _ e => by cases e) (fun _ _ e => by cases e) (.inl ⟨rfl, rfl⟩)
        · cases he
      · split at he
        · rename_i r hr; cases he
          exact eqv r hr (fun _ _ _ _ e => by cases e) (fun _ _ e => by cases e) (.inr ⟨rfl, rfl⟩)
        · cases he
      · cases he
  · rename_i hn3 hn1 hn2 hn4
    refine sat_guard (fun x y e1 _ => hn3 x e1) (fun e1 e2 => (hn4 e1 e2).elim) ?_
    split at he
    · split at he
      · rename_i r hr; cases he
        exact eqv r hr (fun k x k' y e1 e2 => hn1 k x k' y e1 e2) (fun x y e1 e2 => hn2 x y e1 e2) (.inl ⟨rfl, rfl⟩)
      · cases he
    · split at he
      · rename_i r hr; cases he
        exact eqv r hr (fun k x k' y e1 e2 => hn1 k x k' y e1 e2) (fun x y e1 e2 => hn2 x y e1 e2) (.inr ⟨rfl, rfl⟩)
      · cases he
    · cases he
end
end Go.Proofs.Evz

/-
  ENGINE 8. Unary operations, conversions, len, interfaces, maps, literals.
-/
namespace Go.Proofs.Evz
open Go Go.Conc

section
variable {P : Program} {env : Env} {G : Nat} {σ : Sub} {H : AHeap} {nx : Nat} {F : Foot} {w : World}

noncomputable def aUn (op : UnOp) (a : Value) : Option Value :=
  match a with
  | .int _ _ => pureOf (Op.unary op a)
  | .bool b => match op with | .not => some (.bool (!b)) | _ => none
  | _ => none

theorem sat_un (h : HR P G σ H nx F w) {op : UnOp} {a v : Value} (he : aUn op a = some v) {n : Nat} : Sat P F n (Op.unary op (ren σ a)) w (Post P G σ H nx F w v H nx) NoE := by
  unfold aUn at he
  split at he
  · rename_i k x
    have hc : Closedv v := by
      cases op <;> simp [Op.unary, Op.intArith, Op.intBits, stuck, pureOf] at he
      all_goals first
        | (subst he; intro σ; simp)
        | (cases he; intro σ; simp)
    rw [ren_int]
    exact sat_pureOf he (post_pure h (hc.sc nx) (hc σ).symm)
  · split at he
    · cases he
      rw [ren_bool]
      exact sat_pure (post_pure h (sc_bool _ _) (by simp))
    · cases he
  · cases he

/-! ### conversions -/
def bytesOf : List Value → Option (List UInt8)
  | [] => some []
  | .int .u8 (.ofNat n) :: l => match bytesOf l with | some r => some (UInt8.ofNat n :: r) | none => none
  | _ => none

/-- What a conversion comes to: a value, and a new block, if it makes one. -/
noncomputable def aConv (env : Env) (src dst : TypeId) (x : Value) (H : AHeap) (nx : Nat) : Option (Value × AHeap × Nat) :=
  match env.ti src, env.ti dst with
  | some si, some di => match si.und, di.und, x with
    | _, .int k, .int _ n => some (.int k (k.wrap n), H, nx)
    | .string, .string, .string s => some (.string s, H, nx)
    | .string, .slice e, .string s =>
      match env.ti e with
      | some ei => match ei.und with
        | .int .u8 => bif Nat.blt nx (2 ^ HD) && Nat.beq ei.size 1 then
            some (.slice (some ⟨nx, 0, none⟩) s.data.toList.length s.data.toList.length, aNew e (s.data.toList.map fun b => .int .u8 (Int.ofNat b.toNat)) true H nx, nx + 1) else none
        | _ => none
      | none => none
    | .slice e, .string, .slice none _ _ => match env.ti e with
      | some ei => match ei.und with
        | .int .u8 => some (.string ⟨⟨[]⟩⟩, H, nx)
        | _ => none
      | none => none
    | .slice e, .string, .slice (some a) len _ =>
      match env.ti e, H.at a.block with
      | some ei, some (.cells _ cs _ _) => match ei.und with
        | .int .u8 => match takeK len (dropK a.off cs) with
          | some l => match bytesOf l with
            | some bs => some (.string ⟨⟨bs⟩⟩, H, nx)
            | none => none
          | none => none
        | _ => none
      | _, _ => none
    | _, _, _ => none
  | _, _ => none

theorem bytesOf_eq : ∀ (l : List Value) (bs : List UInt8), bytesOf l = some bs → ∃ ns : List Nat, l = ns.map (fun n => .int .u8 (Int.ofNat n)) ∧ bs = ns.map UInt8.ofNat
  | [], bs, h => ⟨[], rfl, by simp [bytesOf] at h; exact h⟩
  | v :: l, bs, h => by
    unfold bytesOf at h
    split at h
    · rename_i e; cases e
    · rename_i n l' e
      cases e
      split at h
      · rename_i r hr
        cases h
        obtain ⟨ns, h1, h2⟩ := bytesOf_eq _ _ hr
        exact ⟨n :: ns, by rw [h1]; rfl, by rw [h2]; rfl⟩
      · cases h
    · cases h

theorem sat_bytesLoop {n : Nat} {E : Value → World → Prop} : ∀ (ns : List Nat) (s : ByteArray) (Q : ByteArray → World → Prop), Q (ns.foldl (fun s n => s.push (UInt8.ofNat n)) s) w →
    Sat P F n (forIn (ns.map (fun n => Value.int .u8 (Int.ofNat n))).toArray s (fun c s => do
      let .int .u8 n := c | stuck "bytesToString: byte expected"
      pure (ForInStep.yield (s.push (UInt8.ofNat n.toNat)))) : Sem ByteArray) w Q E := by
  intro ns
  intro s Q h
  simp only [List.forIn_toArray]
  induction ns generalizing s with
  | nil => exact sat_pure (by simpa using h)
  | cons k ns ih =>
    simp only [List.map_cons, List.forIn_cons]
    refine sat_bind' (sat_pure ?_)
    exact ih _ h

theorem foldl_push : ∀ (ns : List Nat) (s : ByteArray), ns.foldl (fun s n => s.push (UInt8.ofNat n)) s = ⟨⟨s.data.toList ++ ns.map UInt8.ofNat⟩⟩
  | [], s => by cases s; simp
  | n :: ns, s => by
    rw [List.foldl_cons, foldl_push ns]
    apply ByteArray.ext; apply Array.toList_inj.1
    simp [ByteArray.push]

theorem closedv_bool (b : Bool) : Closedv (.bool b) := fun σ => by simp
theorem closedv_int (k : IntKind) (b : Int) : Closedv (.int k b) := fun σ => by simp
theorem closedv_string (b : ByteArray) : Closedv (.string b) := fun σ => by simp

theorem sat_mark {n : Nat} {w0 : World} {b : Nat} {c : Array Value} {t : TypeId} (hb : w0.heap[b]? = some (.cells c t)) (hm : F.may n b) {Q : Unit → World → Prop} {E : Value → World → Prop}
    (hq : Q () (w0.freeze ⟨b, c.size, none⟩ 1)) : Sat P F n (markStringish ⟨b, 0, none⟩) w0 Q E := by
  refine sat_bind' ?_
  show Sat P F n (match w0.shape? b with
    | some (_, n) => freeze { block := b, off := n } 1
    | _ => pure ()) w0 Q E
  simp only [World.shape?, hb]
  exact ⟨hm, hq⟩

theorem freeze_push (w0 w1 : World) (c : Array Value) (t : TypeId) (h : w1.heap = w0.heap.push (.cells c t)) : (w1.freeze ⟨w0.heap.size, c.size, none⟩ 1).heap = w0.heap.push (.cells c t (c.size, c.size + 1)) := by
  unfold World.freeze
  rw [if_neg (by omega)]
  simp only [h]
  apply Array.ext_getElem?
  intro i
  rw [Array.getElem?_modify]
  by_cases e : w0.heap.size = i
  · subst e; simp
  · rw [if_neg e]
    simp only [Array.getElem?_push, Ne.symm e, if_false]

theorem sat_conv (ok : EnvOk P env) (h : HR P G σ H nx F w) {src dst : TypeId} {x v : Value} {H' : AHeap} {nx' : Nat} (hx : Sc nx x) (he : aConv env src dst x H nx = some (v, H', nx')) {n : Nat} (hn : n ≤ w.heap.size) :
    Sat P F n (Go.convert src dst (ren σ x)) w (Post P G σ H nx F w v H' nx') NoE := by
  unfold aConv at he
  split at he
  · rename_i si di hsi hdi
    obtain ⟨h1, _⟩ := ok.ti _ si hsi
    obtain ⟨h2, _⟩ := ok.ti _ di hdi
    refine sat_bind' (sat_und h1 (sat_bind' (sat_und h2 ?_)))
    split at he
    · rename_i k _ m hd
      cases he
      simp only [hd, ren_int]
      cases hsu : si.und <;> exact sat_pure (post_pure h ((closedv_int _ _).sc nx) (by simp))
    · rename_i s hu hd
      cases he
      simp only [hu, hd, ren_string]
      exact sat_pure (post_pure h ((closedv_string _).sc nx) (by simp))
    · rename_i e s hu hd
      split at he
      · rename_i ei hei
        obtain ⟨h3, _⟩ := ok.ti _ ei hei
        split at he
        · rename_i hue
          cases hb : (Nat.blt nx (2 ^ HD) && Nat.beq ei.size 1) with
          | false => rw [hb] at he; cases he
          | true =>
            rw [hb] at he
            cases he
            rw [Bool.and_eq_true] at hb
            have hone : P.cellsOf e = 1 := by
              obtain ⟨_, j, g2, g3, _⟩ := ok.ti _ ei hei
              rw [Program.cellsOf, g2]; simp only [Option.map_some, Option.getD_some, g3]; exact Nat.eq_of_beq_eq_true hb.2
            simp only [hu, hd, ren_string]
            refine sat_bind' (sat_und h3 ?_)
            simp only [hue]
            unfold Conv.stringToBytes
            refine sat_bind' ?_
            show (if _ then _ else _)
            rw [if_neg (by simp [Question.forced])]
            intro t
            refine sat_pure ?_
            have hcap : s.size ≤ (Question.appendCap s.size 0 e).cut t := by simp [Question.cut]
            generalize (Question.appendCap s.size 0 e).cut t = cap at hcap
            refine sat_bind' (sat_newRow ?_)
            have hsz : s.data.toList.length = s.size := by cases s; rfl
            generalize hc : (s.data.map fun b => (Value.int .u8 b.toNat : Value)) ++ Array.replicate (cap - s.size) (.int .u8 0) = c
            have hcs : c.size = cap := by
              rw [← hc]; simp only [Array.size_append, Array.size_map, Array.size_replicate]
              have : s.data.size = s.size := rfl
              omega
            refine sat_bind' (sat_mark (c := c) (t := e) (by simp) (.inr ?_) ?_)
            · exact hn
            refine sat_pure ?_
            rw [hsz]
            refine post_alloc h (blt_lt hb.1) (c := c) (fr := (c.size, c.size + 1)) (cap - s.size) ?_ ?_ ?_ ?_ (by simp) ?_ (sc_slice (Nat.lt_succ_self _)) ?_
            · exact freeze_push _ _ _ _ rfl
            · rw [hone, hcs, List.length_map]; omega
            · intro i hi
              rw [List.length_map] at hi
              rw [← hc, Array.getElem?_append_left (by rw [Array.size_map]; have : s.data.size = s.size := rfl; omega), Array.getElem?_map, List.getElem?_map, ← Array.getElem?_toList]
              cases s.data.toList[i]? <;> simp
            · intro i hi
              simp only
              omega
            · intro v hv; simp only [List.mem_map] at hv; obtain ⟨b, _, rfl⟩ := hv; exact sc_int _ _ _
            · simp [renA, upd_at]; omega
        · cases he
      · cases he
    · rename_i e _ _ hu hd
      split at he
      · rename_i ei hei
        obtain ⟨h3, _⟩ := ok.ti _ ei hei
        split at he
        · rename_i hue
          cases he
          simp only [hu, hd, ren_slice_none]
          refine sat_bind' (sat_und h3 ?_)
          simp only [hue]
          exact sat_pure (post_pure h ((closedv_string _).sc nx) (by simp; rfl))
        · cases he
      · cases he
    · rename_i e a len cap hu hd
      split at he
      · rename_i ei et cs gr ro hei ho
        obtain ⟨h3, _⟩ := ok.ti _ ei hei
        split at he
        · rename_i hue
          split at he
          · rename_i l hl
            split at he
            · rename_i bs hbs
              cases he
              obtain ⟨ns, rfl, rfl⟩ := bytesOf_eq _ _ hbs
              obtain ⟨e1, e2⟩ := takeK_eq _ _ _ hl
              rw [dropK_eq] at e1 e2
              simp only [hu, hd, ren_slice]
              refine sat_bind' (sat_und h3 ?_)
              simp only [hue]
              have hid := sc_slice_lt hx
              have hlen : ns.length = len := by
                have := congrArg List.length e1
                simp only [List.length_map, List.length_take] at this; omega
              refine sat_bind' (sat_loadCells (renA σ a) (h.see hid ho n) (ns.map fun n => Value.int .u8 (Int.ofNat n)) len (by simp [hlen]) (fun k hk => ?_) ?_)
              · simp only [List.length_map] at hk
                have hkk : a.off + k < cs.length := by simp only [List.length_drop] at e2; omega
                rw [h.cell hid ho k hkk]
                have : cs[a.off + k]? = (ns.map fun n => Value.int .u8 (Int.ofNat n))[k]? := by
                  rw [e1, List.getElem?_take, if_pos (by omega), List.getElem?_drop]
                rw [this, List.getElem?_map]
                cases ns[k]? <;> simp
              · refine sat_bind' (sat_bytesLoop ns _ _ ?_)
                refine sat_pure (post_pure h ((closedv_string _).sc nx) ?_)
                rw [ren_string, foldl_push]; rfl
            · cases he
          · cases he
        · cases he
      · cases he
    · cases he
  · cases he
end
end Go.Proofs.Evz

/-
  ENGINE 9. len, interfaces, maps, literals, make.
-/
namespace Go.Proofs.Evz
open Go Go.Conc

section
variable {P : Program} {env : Env} {G : Nat} {σ : Sub} {H : AHeap} {nx : Nat} {F : Foot} {w : World}

noncomputable def aLen (env : Env) (t : TypeId) (x : Value) (H : AHeap) : Option Value :=
  match env.ti t with
  | some ti => match ti.und, x with
    | .string, .string s => some (.int .i64 (Int.ofNat s.data.toList.length))
    | .array n _, _ => some (.int .i64 (Int.ofNat n))
    | .slice _, .slice _ n _ => some (.int .i64 (Int.ofNat n))
    | .map _ _, .map none => some (.int .i64 0)
    | .map _ _, .map (some r) => match H.at r with
      | some (.map es _) => some (.int .i64 (Int.ofNat es.length))
      | _ => none
    | _, _ => none
  | none => none

theorem HR.mapAt (h : HR P G σ H nx F w) {r : Nat} (hr : r < nx) {es : List MapEntry} {clock : Nat} (ho : H.at r = some (.map es clock)) :
    w.heap[(σ r).blk]? = some (.map (es.map (renE σ)).toArray clock) ∧ (∀ e ∈ es, Sc nx e.key ∧ Sc nx e.val) ∧ F.mine (σ r).blk := by
  obtain ⟨_, h2⟩ := h.live r _ (Nat.lt_of_lt_of_le hr h.top) ho
  exact h2

theorem sat_getMap (h : HR P G σ H nx F w) {r : Nat} (hr : r < nx) {es : List MapEntry} {clock : Nat} (ho : H.at r = some (.map es clock)) {n : Nat} {Q : Obj → World → Prop} {E : Value → World → Prop}
    (hq : Q (.map (es.map (renE σ)).toArray clock) w) : Sat P F n (getObj (σ r).blk) w Q E :=
  ⟨_, (h.mapAt hr ho).1, by simp, .inl (.inl (h.mapAt hr ho).2.2), hq⟩

theorem sat_len (ok : EnvOk P env) (h : HR P G σ H nx F w) {t t' : TypeId} {x v : Value} (hx : Sc nx x) (he : aLen env t x H = some v) {n : Nat} {ts : Array TypeId} {as : Array Value} (hts : ts[0]? = some t) (has : as[0]? = some (ren σ x)) :
    Sat P F n (Builtin.len_ ts t' as) w (Post P G σ H nx F w v H nx) NoE := by
  unfold aLen at he
  unfold Builtin.len_
  simp only [hts, has]
  split at he
  · rename_i ti hti
    obtain ⟨h1, _⟩ := ok.ti t ti hti
    refine sat_bind' (sat_und h1 ?_)
    split at he
    · rename_i s hund; cases he
      simp only [hund, ren_string]
      refine sat_pure (post_pure h (sc_int _ _ _) ?_)
      have : s.data.toList.length = s.size := by cases s; rfl
      rw [this, ren_int]; rfl
    · rename_i m _ hund; cases he
      simp only [hund]
      exact sat_pure (post_pure h (sc_int _ _ _) (by rw [ren_int]; rfl))
    · rename_i e a m cap hund; cases he
      cases a <;> (simp only [hund, ren_slice, ren_slice_none]; exact sat_pure (post_pure h (sc_int _ _ _) (by rw [ren_int]; rfl)))
    · rename_i hund; cases he
      simp only [hund, ren_map_none]
      exact sat_pure (post_pure h (sc_int _ _ _) (by rw [ren_int]; rfl))
    · rename_i r hund
      split at he
      · rename_i es clock ho; cases he
        simp only [hund, ren_map]
        refine sat_bind' (sat_getMap h (sc_map_lt hx) ho ?_)
        refine sat_pure (post_pure h (sc_int _ _ _) ?_)
        simp [goInt]
      · cases he
    · cases he
  · cases he

/-! ### interfaces -/
noncomputable def aIface (env : Env) (t : TypeId) (x : Value) : Option Value :=
  match env.ti t with
  | some ti => match ti.und with
    | .interface _ => none
    | _ => some (.iface t x)
  | none => none
theorem sat_iface (ok : EnvOk P env) (h : HR P G σ H nx F w) {t : TypeId} {x v : Value} (hx : Sc nx x) (he : aIface env t x = some v) {n : Nat} : Sat P F n (Instr.makeInterface t (ren σ x)) w (Post P G σ H nx F w v H nx) NoE := by
  unfold aIface at he
  split at he
  · rename_i ti hti
    obtain ⟨h1, _⟩ := ok.ti t ti hti
    refine sat_bind' (sat_und h1 ?_)
    split at he
    · cases he
    · rename_i hne; cases he
      split
      · rename_i e; exact (hne _ e).elim
      · exact sat_pure (post_pure h (sc_iface hx) (by simp))
  · cases he

/-- x.(T), T no interface type. -/
noncomputable def aAssert (env : Env) (x : Value) (t : TypeId) (ok : Bool) : Option Value :=
  match env.ti t with
  | some ti => match ti.und with
    | .interface _ => none
    | _ => match x with
      | .iface u v => bif Nat.beq u t then some (bif ok then .tuple #[v, .bool true] else v) else (bif ok then (match ti.zero with | some z => some (.tuple #[z, .bool false]) | none => none) else none)
      | .nilIface => bif ok then (match ti.zero with | some z => some (.tuple #[z, .bool false]) | none => none) else none
      | _ => none
  | none => none
theorem sat_assert (ok : EnvOk P env) (h : HR P G σ H nx F w) {x v : Value} {xt t : TypeId} {co : Bool} (hx : Sc nx x) (he : aAssert env x t co = some v) {n : Nat} : Sat P F n (Instr.typeAssert (ren σ x) xt t co) w (Post P G σ H nx F w v H nx) NoE := by
  unfold aAssert at he
  split at he
  · rename_i ti hti
    obtain ⟨h1, j, h2, h3, h4, h5, h6⟩ := ok.ti t ti hti
    have zero : ∀ z, ti.zero = some z → Sat P F n (zeroValue t >>= fun v => pure (.tuple #[v, .bool false])) w (Post P G σ H nx F w (.tuple #[z, .bool false]) H nx) NoE := by
      intro z hz
      refine sat_bind' (sat_zero h2 (h5.trans hz) (sat_pure (post_pure h ?_ ?_)))
      · refine sc_tuple fun y hy => ?_
        simp only [List.mem_toArray, List.mem_cons, List.not_mem_nil, or_false] at hy
        rcases hy with rfl | rfl
        · exact (h6 _ hz).sc nx
        · exact sc_bool _ _
      · simp [h6 z hz σ]
    split at he
    · cases he
    · rename_i hne
      split at he
      · rename_i u y
        have fin : Sat P F n (if u = t then (pure (if co then .tuple #[ren σ y, .bool true] else ren σ y) : Sem Value) else (if co then (zeroValue t >>= fun v => pure (.tuple #[v, .bool false])) else runtimePanic (.typeAssertion (some xt) (some u) t ""))) w (Post P G σ H nx F w v H nx) NoE := by
          cases hb : Nat.beq u t with
          | true =>
            rw [hb] at he
            cases he
            rw [if_pos (Nat.eq_of_beq_eq_true hb)]
            cases co
            · exact sat_pure (post_pure h hx.iface rfl)
            · refine sat_pure (post_pure h (sc_tuple fun y hy => ?_) (by simp))
              simp only [List.mem_toArray, List.mem_cons, List.not_mem_nil, or_false] at hy
              rcases hy with rfl | rfl
              · exact hx.iface
              · exact sc_bool _ _
          | false =>
            rw [hb] at he
            rw [if_neg (beq_ne hb)]
            cases co
            · cases he
            · simp only [cond_false, cond_true] at he
              split at he
              · rename_i z hz; cases he
                simp only [if_true]
                exact zero z hz
              · cases he
        refine sat_bind' (sat_und h1 ?_)
        rw [ren_iface]
        cases hu : ti.und <;> first | exact (hne _ hu).elim | exact fin
      · have fin : Sat P F n (if co then (zeroValue t >>= fun v => pure (.tuple #[v, .bool false])) else runtimePanic (.typeAssertion (some xt) none t "")) w (Post P G σ H nx F w v H nx) NoE := by
          cases co
          · cases he
          · simp only [cond_true] at he
            split at he
            · rename_i z hz; cases he
              simp only [if_true]; exact zero z hz
            · cases he
        refine sat_bind' (sat_und h1 ?_)
        rw [ren_nilIface]
        cases hu : ti.und <;> first | exact (hne _ hu).elim | exact fin
      · cases he
  · cases he
end
end Go.Proofs.Evz

/-
  ENGINE 10. Maps; make; composite literals.
-/
namespace Go.Proofs.Evz
open Go Go.Conc

section
variable {P : Program} {env : Env} {G : Nat} {σ : Sub} {H : AHeap} {nx : Nat} {F : Foot} {w : World}

/-! ### maps with int or string keys -/
def plainKey : Value → Bool
  | .int _ _ | .string _ => true
  | _ => false
def keyD : TypeDesc → Bool
  | .int _ | .string => true
  | _ => false
theorem plainKey_ren {k : Value} (h : plainKey k = true) (σ : Sub) : ren σ k = k := by
  cases k <;> simp [plainKey] at h <;> simp

theorem sameNow_ren (d : TypeDesc) (k : Value) (hk : plainKey k = true) (v : Value) : Instr.sameNow d k (ren σ v) = Instr.sameNow d k v := by
  cases v with
  | pointer a => cases a <;> simp only [ren_pointer, ren_pointer_none] <;> (cases d <;> cases k <;> first | rfl | simp [plainKey] at hk)
  | slice a l c => cases a <;> simp only [ren_slice, ren_slice_none] <;> (cases d <;> cases k <;> first | rfl | simp [plainKey] at hk)
  | map r => cases r <;> simp only [ren_map, ren_map_none] <;> (cases d <;> cases k <;> first | rfl | simp [plainKey] at hk)
  | chan r => cases r <;> simp only [ren_chan, ren_chan_none] <;> (cases d <;> cases k <;> first | rfl | simp [plainKey] at hk)
  | agg r => rw [ren_agg]; cases d <;> cases k <;> first | rfl | simp [plainKey] at hk
  | tuple r => rw [ren_tuple]; cases d <;> cases k <;> first | rfl | simp [plainKey] at hk
  | func f a b => rw [ren_func]; cases d <;> cases k <;> first | rfl | simp [plainKey] at hk
  | iface f a => rw [ren_iface]; cases d <;> cases k <;> first | rfl | simp [plainKey] at hk
  | _ => simp

theorem findNow_ren (d : TypeDesc) (k : Value) (hk : plainKey k = true) : ∀ (es : List MapEntry) (i : Nat), Instr.findNow d k (es.map (renE σ)) i = (Instr.findNow d k es i).map (Option.map fun p => (p.1, ren σ p.2))
  | [], i => rfl
  | e :: es, i => by
    simp only [List.map_cons, Instr.findNow]
    have : (renE σ e).key = ren σ e.key := rfl
    rw [this, sameNow_ren d k hk]
    cases Instr.sameNow d k e.key with
    | none => rfl
    | some b => cases b
                · exact findNow_ren d k hk es (i + 1)
                · rfl

theorem sat_checkKey (ok : EnvOk P env) {b : Bool} {t : TypeId} {ti : TI} (hti : env.ti t = some ti) {k : Value} (hd : keyD ti.und = true) (hk : plainKey k = true) {n : Nat} {Q : Unit → World → Prop} {E : Value → World → Prop} (hq : Q () w) : Sat P F n (Instr.checkKey b 10000 t k) w Q E := by
  obtain ⟨h1, _⟩ := ok.ti t ti hti
  show Sat P F n (Instr.checkKey b (9999 + 1) t k) w Q E
  refine sat_bind' (sat_und h1 ?_)
  cases hu : ti.und <;> rw [hu] at hd <;> simp [keyD] at hd <;> (cases k <;> simp [plainKey] at hk <;> exact hq)

noncomputable def aLookup (env : Env) (t : TypeId) (m k : Value) (co : Bool) (H : AHeap) : Option Value :=
  bif plainKey k then
    match env.ti t with
    | some ti => match ti.und with
      | .map kt et => match env.ti kt, env.ti et with
        | some ki, some ei => bif !keyD ki.und then none else
          match (match m with
            | .map none => some []
            | .map (some r) => (match H.at r with | some (.map es _) => some es | _ => none)
            | _ => none) with
          | some es => match Instr.findNow ki.und k es 0 with
            | some (some (_, v)) => some (bif co then .tuple #[v, .bool true] else v)
            | some none => match ei.zero with
              | some z => some (bif co then .tuple #[z, .bool false] else z)
              | none => none
            | none => none
          | none => none
        | _, _ => none
      | _ => none
    | none => none
  else none

theorem findNow_mem (d : TypeDesc) (k : Value) : ∀ (es : List MapEntry) (i j : Nat) (v : Value), Instr.findNow d k es i = some (some (j, v)) → ∃ e ∈ es, e.val = v
  | [], i, j, v, h => by simp [Instr.findNow] at h
  | e :: es, i, j, v, h => by
    unfold Instr.findNow at h
    split at h
    · cases h; exact ⟨e, by simp, rfl⟩
    · obtain ⟨e', h1, h2⟩ := findNow_mem d k es (i + 1) j v h
      exact ⟨e', List.mem_cons_of_mem _ h1, h2⟩
    · cases h

theorem sat_findKey (ok : EnvOk P env) {t : TypeId} {ti : TI} (hti : env.ti t = some ti) {k : Value} (hk : plainKey k = true) {es : List MapEntry} {r : Option (Nat × Value)} (hr : Instr.findNow ti.und k es 0 = some r) {n : Nat}
    {Q : Option (Nat × Value) → World → Prop} {E : Value → World → Prop} (hq : Q (r.map fun p => (p.1, ren σ p.2)) w) : Sat P F n (Instr.findKey t k (es.map (renE σ))) w Q E := by
  obtain ⟨h1, _⟩ := ok.ti t ti hti
  refine sat_bind' (sat_und h1 ?_)
  rw [findNow_ren _ _ hk, hr]
  exact hq

theorem sat_lookup (ok : EnvOk P env) (h : HR P G σ H nx F w) {t : TypeId} {m k v : Value} {co : Bool} (hm : Sc nx m) (he : aLookup env t m k co H = some v) {n : Nat} :
    Sat P F n (Instr.lookup t (ren σ m) (ren σ k) co) w (Post P G σ H nx F w v H nx) NoE := by
  unfold aLookup at he
  cases hk : plainKey k with
  | false => rw [hk] at he; cases he
  | true =>
    rw [hk] at he
    simp only [cond_true] at he
    split at he
    · rename_i ti hti
      obtain ⟨h1, _⟩ := ok.ti t ti hti
      split at he
      · rename_i kt et hund
        split at he
        · rename_i ki ei hki hei
          obtain ⟨_, j, h2, h3, h4, h5, h6⟩ := ok.ti et ei hei
          cases hkd : keyD ki.und with
          | false => rw [hkd] at he; cases he
          | true =>
          rw [hkd] at he
          simp only [Bool.not_true, cond_false] at he
          refine sat_bind' (sat_und h1 ?_)
          simp only [hund]
          rw [plainKey_ren hk]
          -- the rest, once the entries are known
          have rest : ∀ (es : List MapEntry), (∀ e ∈ es, Sc nx e.val) → (match Instr.findNow ki.und k es 0 with
              | some (some (_, v)) => some (bif co then Value.tuple #[v, .bool true] else v)
              | some none => (match ei.zero with
                | some z => some (bif co then Value.tuple #[z, .bool false] else z)
                | none => none)
              | none => none) = some v → ∀ b, Sat P F n (do
                Instr.checkKey b 10000 kt k
                let (v, ok) ← match ← Instr.findKey kt k (es.map (renE σ)) with
                  | some (_, v) => pure (v, true)
                  | none => pure (← zeroValue et, false)
                pure (if co then .tuple #[v, .bool ok] else v)) w (Post P G σ H nx F w v H nx) NoE := by
            intro es hes hv b
            refine sat_bind' (sat_checkKey ok hki hkd hk ?_)
            split at hv
            · rename_i p y hf
              refine sat_bind' (sat_findKey ok hki hk hf ?_)
              simp only [Option.map_some]
              refine sat_bind' (sat_pure ?_)
              obtain ⟨e, e1, e2⟩ := findNow_mem _ _ _ _ _ _ hf
              have hy : Sc nx y := e2 ▸ hes e e1
              cases hv
              cases co
              · exact sat_pure (post_pure h hy rfl)
              · refine sat_pure (post_pure h (sc_tuple fun y' hy' => ?_) (by simp))
                simp only [List.mem_toArray, List.mem_cons, List.not_mem_nil, or_false] at hy'
                rcases hy' with rfl | rfl
                · exact hy
                · exact sc_bool _ _
            · rename_i hf
              split at hv
              · rename_i z hz
                refine sat_bind' (sat_findKey ok hki hk hf ?_)
                simp only [Option.map_none]
                refine sat_bind' (sat_zero h2 (h5.trans hz) (sat_bind' (sat_pure ?_)))
                cases hv
                cases co
                · exact sat_pure (post_pure h ((h6 z hz).sc nx) (h6 z hz σ).symm)
                · refine sat_pure (post_pure h (sc_tuple fun y' hy' => ?_) (by simp [h6 z hz σ]))
                  simp only [List.mem_toArray, List.mem_cons, List.not_mem_nil, or_false] at hy'
                  rcases hy' with rfl | rfl
                  · exact (h6 _ hz).sc nx
                  · exact sc_bool _ _
              · cases hv
            · cases hv
          split at he
          · rename_i es hes
            split at hes
            · cases hes
              rw [ren_map_none]
              refine sat_bind' (sat_pure ?_)
              exact rest [] (by simp) he _
            · rename_i r
              split at hes
              · rename_i es' clock ho
                cases hes
                rw [ren_map]
                have hr := sc_map_lt hm
                refine sat_bind' (sat_bind' (sat_getMap h hr ho (sat_pure ?_)))
                exact rest es (fun e he => ((h.mapAt hr ho).2.1 e he).2) he _
              · cases hes
            · cases hes
          · cases he
        · cases he
      · cases he
    · cases he

noncomputable def aMapSet (env : Env) (t : TypeId) (m k x : Value) (H : AHeap) : Option AHeap :=
  bif plainKey k then
    match env.ti t with
    | some ti => match ti.und with
      | .map kt _ => match env.ti kt, m with
        | some ki, .map (some r) => bif !keyD ki.und then none else match H.at r with
          | some (.map es clock) => match Instr.findNow ki.und k es 0 with
            | some none => some (H.put r (some (.map (es ++ [{ key := k, val := x, born := clock }]) (clock + 1))))
            | _ => none
          | _ => none
        | _, _ => none
      | _ => none
    | none => none
  else none

theorem sat_mapSet (ok : EnvOk P env) (h : HR P G σ H nx F w) {t : TypeId} {m k x : Value} {H' : AHeap} (hm : Sc nx m) (hx : Sc nx x) (he : aMapSet env t m k x H = some H') :
    Sat P F w.heap.size (Instr.mapUpdate t (ren σ m) (ren σ k) (ren σ x)) w (fun _ w' => Post P G σ H nx F w undef H' nx undef w') NoE := by
  unfold aMapSet at he
  cases hk : plainKey k with
  | false => rw [hk] at he; cases he
  | true =>
    rw [hk] at he
    simp only [cond_true] at he
    split at he
    · rename_i ti hti
      obtain ⟨h1, _⟩ := ok.ti t ti hti
      split at he
      · rename_i kt et hund
        split at he
        · rename_i ki r hki
          cases hkd : keyD ki.und with
          | false => rw [hkd] at he; cases he
          | true =>
          rw [hkd] at he
          simp only [Bool.not_true, cond_false] at he
          split at he
          · rename_i es clock ho
            split at he
            · rename_i hf
              cases he
              refine sat_bind' (sat_und h1 ?_)
              simp only [hund, ren_map]
              rw [plainKey_ren hk]
              have hr := sc_map_lt hm
              obtain ⟨g1, g2, g3⟩ := h.mapAt hr ho
              refine sat_bind' (sat_getMap h hr ho ?_)
              refine sat_bind' (sat_checkKey ok hki hkd hk ?_)
              refine sat_bind' (sat_findKey ok hki hk hf ?_)
              simp only [Option.map_none]
              refine ⟨⟨_, g1, by simp⟩, .inl g3, ?_⟩
              have hk2 := h.turn (id := r) (o := .map es clock) (o' := .map (es ++ [{ key := k, val := x, born := clock }]) (clock + 1)) hr ho
                (ob := .map ((es.map (renE σ)).toArray.push { key := k, val := ren σ x, born := clock }) (clock + 1)) ?_
              · refine ⟨σ, Agree.refl _ _, Nat.le_refl _, by simp, sc_undef _, ?_, ?_⟩
                · have := hk2.1
                  simp only [Array.size_setIfInBounds, grow_self]; exact this
                · have := hk2.2
                  simp only [Array.size_setIfInBounds, grow_self]; exact this
              · refine ⟨?_, fun e hee => ?_, g3⟩
                · rw [putB_at g1]
                  simp [renE, plainKey_ren hk]
                · rcases List.mem_append.1 hee with h' | h'
                  · exact g2 e h'
                  · simp only [List.mem_cons, List.not_mem_nil, or_false] at h'
                    subst h'
                    refine ⟨fun σ σ' _ => ?_, hx⟩
                    simp only [plainKey_ren hk]
            · cases he
          · cases he
        · cases he
      · cases he
    · cases he

noncomputable def aMakeMap (nx : Nat) (H : AHeap) : Option (Value × AHeap × Nat) :=
  bif Nat.blt nx (2 ^ HD) then some (.map (some nx), H.put nx (some (.map [] 0)), nx + 1) else none

theorem sat_makeMap (h : HR P G σ H nx F w) {t : TypeId} {v : Value} {H' : AHeap} {nx' : Nat} (he : aMakeMap nx H = some (v, H', nx')) {n : Nat} : Sat P F n (Instr.makeMap t none) w (Post P G σ H nx F w v H' nx') NoE := by
  unfold aMakeMap at he
  cases hb : Nat.blt nx (2 ^ HD) with
  | false => rw [hb] at he; cases he
  | true =>
    rw [hb] at he
    cases he
    obtain ⟨h1, h2⟩ := h.allocMap (blt_lt hb) (w' := { w with heap := w.heap.push (.map #[] 0) }) rfl
    show Post P G σ H nx F w _ _ _ (.map (some w.heap.size)) _
    exact ⟨_, upd_agree _ _ _, Nat.le_succ _, by simp [upd_at], sc_map (Nat.lt_succ_self _), h1, h2⟩

/-! ### composite literals -/
noncomputable def aFill (place : Nat → Option (Nat × Nat)) : List Value → List (Nat × Value) → Option (List Value)
  | cells, [] => some cells
  | cells, (i, v) :: rest => match place i with
    | none => none
    | some (off, size) => bif Nat.beq v.cells.toList.length size then (match splice off cells v.cells.toList with
      | some c => aFill place c rest
      | none => none) else none

theorem foldl_wr (off : Nat) : ∀ (vs : List Value) (j : Nat) (c : Array Value), (vs.zipIdx j).foldl (fun cs (p : Value × Nat) => cs.setIfInBounds (off + p.2) p.1) c = wr c (off + j) vs
  | [], _, _ => rfl
  | v :: vs, j, c => by
    simp only [List.zipIdx_cons, List.foldl_cons]
    rw [foldl_wr off vs (j + 1), wr]; rfl

theorem fill_ren {place : Nat → Option (Nat × Nat)} : ∀ (parts : List (Nat × Value)) (cells r : List Value), aFill place cells parts = some r →
    Instr.fill place (cells.map (ren σ)).toArray (parts.map fun p => (p.1, ren σ p.2)) = some (r.map (ren σ)).toArray
  | [], cells, r, h => by simp only [aFill, Option.some.injEq] at h; subst h; rfl
  | (i, v) :: rest, cells, r, h => by
    unfold aFill at h
    simp only [List.map_cons, Instr.fill]
    split at h
    · cases h
    · rename_i off size hp
      simp only [hp]
      cases hb : Nat.beq v.cells.toList.length size with
      | false => rw [hb] at h; cases h
      | true =>
        rw [hb] at h
        simp only [cond_true] at h
        split at h
        · rename_i c hc
          obtain ⟨s1, s2, s3⟩ := splice_eq _ _ _ _ hc
          have hsz : (ren σ v).cells.size = size := by
            rw [cells_ren, Array.size_map]
            have := Nat.eq_of_beq_eq_true hb
            simpa using this
          have hl : v.cells.toList.length = v.cells.size := by simp
          rw [if_neg]
          · have e : ((ren σ v).cells.zipIdx.foldl (fun cs (p : Value × Nat) => cs.setIfInBounds (off + p.2) p.1) (cells.map (ren σ)).toArray) = (c.map (ren σ)).toArray := by
              rw [← Array.foldl_toList, Array.toList_zipIdx, foldl_wr off]
              apply Array.ext_getElem?
              intro j
              rw [wr_get _ _ _ _ (by simp only [cells_ren, Array.toList_map, List.length_map, List.size_toArray]; omega)]
              simp only [Nat.add_zero, cells_ren, Array.toList_map, List.length_map, List.getElem?_toArray, List.getElem?_map, s3 j]
              split <;> rfl
            exact (congrArg (fun x => Instr.fill place x _) e).trans (fill_ren rest c r h)
          · simp only [Bool.or_eq_true, decide_eq_true_eq, not_or, Decidable.not_not, Nat.not_lt, ne_eq, hsz, true_and, List.size_toArray, List.length_map]
            have hb' := Nat.eq_of_beq_eq_true hb
            rw [hl] at s2 hb'
            omega
        · cases h
end
end Go.Proofs.Evz

/-
  ENGINE 11. make, literals (the trees), append, copy.
-/
namespace Go.Proofs.Evz
open Go Go.Conc

theorem sat_listMapM {P : Program} {F : Foot} {n : Nat} {w : World} {E : Value → World → Prop} {α β : Type} (g : α → Sem β) (f : α → β) : ∀ (l : List α), (∀ a ∈ l, ∀ Q : β → World → Prop, Q (f a) w → Sat P F n (g a) w Q E) →
    ∀ Q : List β → World → Prop, Q (l.map f) w → Sat P F n (l.mapM g) w Q E
  | [], _, Q, h => sat_pure h
  | a :: l, hs, Q, h => by
    rw [List.mapM_cons]
    refine sat_bind' (hs a (by simp) _ ?_)
    refine sat_bind' (sat_listMapM g f l (fun b hb => hs b (List.mem_cons_of_mem _ hb)) _ ?_)
    exact sat_pure h

def repK : Nat → List Value → List Value
  | 0, _ => []
  | n + 1, z => z ++ repK n z
theorem repK_length (z : List Value) : ∀ n, (repK n z).length = n * z.length
  | 0 => by simp [repK]
  | n + 1 => by rw [repK, List.length_append, repK_length z n, Nat.succ_mul, Nat.add_comm]
theorem repK_get (z : List Value) : ∀ n i, i < n * z.length → (repK n z)[i]? = z[i % z.length]?
  | 0, i, h => by omega
  | n + 1, i, h => by
    rw [Nat.succ_mul] at h
    rw [repK]
    by_cases hi : i < z.length
    · rw [List.getElem?_append_left hi, Nat.mod_eq_of_lt hi]
    · rw [List.getElem?_append_right (by omega), repK_get z n _ (by omega)]
      congr 1
      rw [Nat.mod_eq_sub_mod (by omega : i ≥ z.length)]
theorem repK_mem (z : List Value) : ∀ n, ∀ v ∈ repK n z, v ∈ z
  | 0, v, h => by cases h
  | n + 1, v, h => by
    rcases List.mem_append.1 h with h | h
    · exact h
    · exact repK_mem z n v h
theorem range_rep (z : Array Value) (m k : Nat) (hk : k = m * z.size) : (Array.range k).map (fun i => z[i % z.size]!) = (repK m z.toList).toArray := by
  subst hk
  apply Array.ext_getElem?
  intro i
  rw [Array.getElem?_map]
  by_cases h : i < m * z.size
  · have h0 : 0 < z.size := by
      rcases Nat.eq_zero_or_pos z.size with e | e
      · rw [e] at h; omega
      · exact e
    have hm : i % z.size < z.size := Nat.mod_lt _ h0
    have e2 := repK_get z.toList m i (by simpa using h)
    have e3 : (repK m z.toList).toArray[i]? = (repK m z.toList)[i]? := List.getElem?_toArray
    rw [e3, e2]
    simp [h, hm, getElem!_pos]
  · have e1 : (Array.range (m * z.size))[i]? = none := by simp; omega
    have e3 : (repK m z.toList).toArray[i]? = (repK m z.toList)[i]? := List.getElem?_toArray
    rw [e1, e3]
    have : (repK m z.toList).length ≤ i := by rw [repK_length]; simp; omega
    rw [List.getElem?_eq_none this]; rfl

section
variable {P : Program} {env : Env} {G : Nat} {σ : Sub} {H : AHeap} {nx : Nat} {F : Foot} {w : World}

theorem sat_askRoom {b : Nat} {n : Nat} {Q : Unit → World → Prop} {E : Value → World → Prop} (hq : Q () w) : Sat P F n (askRoom b) w Q E := by
  unfold askRoom
  split
  · exact ⟨.inl rfl, hq⟩
  · exact hq

noncomputable def aMake (env : Env) (t : TypeId) (l c : Value) (H : AHeap) (nx : Nat) : Option (Value × AHeap × Nat) :=
  match l, c, env.ti t with
  | .int _ (.ofNat l), .int _ (.ofNat c), some ti => match ti.und with
    | .slice el => match env.ti el with
      | some te => match te.zero with
        | some z => bif Nat.ble l c && Nat.blt c 1000000 && Nat.blt te.bytes 1000000 && Nat.blt nx (2 ^ HD) && Nat.beq z.cells.toList.length te.size && Nat.blt 0 te.size then
            some (.slice (some ⟨nx, 0, none⟩) l c, aNew el (repK c z.cells.toList) false H nx, nx + 1) else none
        | none => none
      | none => none
    | _ => none
  | _, _, _ => none

theorem wrap_small {n : Nat} (h : n < 1000000) : IntKind.i64.wrap (Int.ofNat n) = Int.ofNat n := by
  unfold IntKind.wrap
  have h1 : (2 ^ IntKind.i64.bits : Int) = 18446744073709551616 := by decide
  have h2 : (2 ^ (IntKind.i64.bits - 1) : Int) = 9223372036854775808 := by decide
  simp only [h1, h2]
  have h3 : (Int.ofNat n) % 18446744073709551616 = Int.ofNat n := Int.emod_eq_of_lt (Int.natCast_nonneg n) (by show (n : Int) < _; omega)
  rw [h3]
  rw [if_neg]
  have : ¬ (Int.ofNat n ≥ 9223372036854775808) := by show ¬ ((n : Int) ≥ _); omega
  simp only [Bool.and_eq_true, decide_eq_true_eq, not_and]
  exact fun _ => this

theorem sat_make (ok : EnvOk P env) (h : HR P G σ H nx F w) {t : TypeId} {l c v : Value} {H' : AHeap} {nx' : Nat} (he : aMake env t l c H nx = some (v, H', nx')) {n : Nat} :
    Sat P F n (Instr.makeSlice t (ren σ l) (ren σ c)) w (Post P G σ H nx F w v H' nx') NoE := by
  unfold aMake at he
  split at he
  · rename_i k l k' c ti hti
    obtain ⟨h1, _⟩ := ok.ti t ti hti
    split at he
    · rename_i el hund
      split at he
      · rename_i te hte
        obtain ⟨_, j, h2, h3, h4, h5, h6⟩ := ok.ti el te hte
        split at he
        · rename_i z hz
          cases hb : (Nat.ble l c && Nat.blt c 1000000 && Nat.blt te.bytes 1000000 && Nat.blt nx (2 ^ HD) && Nat.beq z.cells.toList.length te.size && Nat.blt 0 te.size) with
          | false => rw [hb] at he; cases he
          | true =>
            rw [hb] at he
            cases he
            simp only [Bool.and_eq_true] at hb
            obtain ⟨⟨⟨⟨⟨b1, b2⟩, b3⟩, b4⟩, b5⟩, b6⟩ := hb
            have b1 := ble_le b1
            have b2 := blt_lt b2
            have b3 := blt_lt b3
            have b5 := Nat.eq_of_beq_eq_true b5
            have b6 := blt_lt b6
            refine sat_bind' (sat_und h1 ?_)
            simp only [hund, ren_int]
            refine sat_bind' (sat_bind' (sat_pure (sat_pure ?_)))
            refine sat_bind' (sat_bind' (sat_pure (sat_pure ?_)))
            refine sat_bind' (sat_info h2 ?_)
            dsimp only
            rw [wrap_small b2, wrap_small (by omega : l < 1000000)]
            have hbig : ¬ ((j.bytes : Int) * Int.ofNat c > 2 ^ 48) := by
              show ¬ ((j.bytes : Int) * (c : Int) > 2 ^ 48)
              have : j.bytes * c ≤ 1000000 * 1000000 := by
                rw [h4]
                exact Nat.mul_le_mul (Nat.le_of_lt b3) (Nat.le_of_lt b2)
              have h' : ((j.bytes * c : Nat) : Int) ≤ 1000000 * 1000000 := by omega
              rw [Int.natCast_mul] at h'
              omega
            rw [if_neg]
            · refine sat_bind' (sat_askRoom ?_)
              refine sat_bind' (sat_size h2 ?_)
              have hc : (Int.ofNat c).toNat = c := rfl
              have hl : (Int.ofNat l).toNat = l := rfl
              rw [hc, hl]
              have hzs : z.cells.size = j.size := by rw [h3, ← b5]; simp
              have hrow : (if c * j.size = 0 then (pure #[] : Sem (Array Value)) else do pure (← zeroValue el).cells) = (if c * j.size = 0 then (pure #[] : Sem (Array Value)) else do pure (← zeroValue el).cells) := rfl
              have fin : ∀ zc : Array Value, (Array.range (c * j.size)).map (fun i => zc[i % zc.size]!) = (repK c z.cells.toList).toArray →
                  Sat P F n (do
                    let a ← newRow el ((Array.range (c * j.size)).map (fun i => zc[i % zc.size]!))
                    pure (.slice (some a) l c)) w (Post P G σ H nx F w (.slice (some ⟨nx, 0, none⟩) l c) (aNew el (repK c z.cells.toList) false H nx) (nx + 1)) NoE := by
                intro zc hzc
                rw [hzc]
                refine sat_bind' (sat_newRow (sat_pure ?_))
                have hcl : ∀ v ∈ repK c z.cells.toList, Closedv v := fun v hv => by
                  have hv := repK_mem _ _ v hv
                  have hz' := h6 z hz
                  have hcc : ∀ x ∈ z.cells, Closedv x := by
                    intro x hx σ
                    have e := cells_ren σ z
                    rw [hz' σ] at e
                    have := amap_eq_mem (f := ren σ) (g := id) (l := z.cells) (by rw [← e, Array.map_id]) x hx
                    exact this
                  exact hcc v (by simpa using hv)
                refine post_alloc h (blt_lt b4) (c := (repK c z.cells.toList).toArray) (fr := (0, 0)) 0 rfl (by simp) (fun i hi => ?_) (fun i _ => by simp) (fun _ => rfl) (fun v hv => (hcl v hv).sc nx) (sc_slice (Nat.lt_succ_self _)) ?_
                · rw [List.getElem?_toArray]
                  cases hh : (repK c z.cells.toList)[i]? with
                  | none => rfl
                  | some y => rw [Option.map_some, hcl y (List.mem_of_getElem? hh) σ]
                · simp [renA, upd_at]
              by_cases h0 : c * j.size = 0
              · rw [if_pos h0]
                refine sat_bind' (sat_pure ?_)
                refine fin #[] ?_
                rw [h0]
                have : c = 0 := by
                  rcases Nat.mul_eq_zero.1 h0 with e | e
                  · exact e
                  · omega
                subst this; simp [repK]
              · rw [if_neg h0]
                refine sat_bind' (sat_zero h2 (h5.trans hz) (sat_bind' (sat_pure ?_)))
                exact fin _ (range_rep z.cells c _ (by rw [hzs]))
            · have e1 : ¬ ((Int.ofNat c) < 0) := by show ¬ ((c : Int) < 0); omega
              have e2 : ¬ ((Int.ofNat l) < 0) := by show ¬ ((l : Int) < 0); omega
              have e3 : ¬ ((Int.ofNat l) > Int.ofNat c) := by show ¬ ((l : Int) > (c : Int)); omega
              simp only [Bool.or_eq_true, decide_eq_true_eq, not_or]
              exact ⟨⟨⟨e1, hbig⟩, e2⟩, e3⟩
        · cases he
      · cases he
    · cases he
  · cases he

/-! ### composite literals, the trees -/
noncomputable def aPlaces (env : Env) : List Field → Option (List (Nat × Nat))
  | [] => some []
  | f :: fs => match env.ti f.type, aPlaces env fs with
    | some tf, some r => some ((f.offset, tf.size) :: r)
    | _, _ => none
def nthP : List (Nat × Nat) → Nat → Option (Nat × Nat)
  | [], _ => none
  | p :: _, 0 => some p
  | _ :: l, n + 1 => nthP l n
theorem nthP_eq : ∀ (l : List (Nat × Nat)) (n : Nat), nthP l n = l[n]?
  | [], _ => rfl
  | _ :: _, 0 => rfl
  | _ :: l, n + 1 => by rw [nthP, nthP_eq l n]; rfl

theorem places_ok (ok : EnvOk P env) : ∀ (fs : List Field) (ps : List (Nat × Nat)), aPlaces env fs = some ps → ∀ {n : Nat} {E : Value → World → Prop} (Q : List (Nat × Nat) → World → Prop), Q ps w →
    Sat P F n (fs.mapM fun f => (do pure (f.offset, ← sizeOf f.type) : Sem (Nat × Nat))) w Q E
  | [], ps, h, n, E, Q, hq => by
    simp only [aPlaces, Option.some.injEq] at h; subst h
    exact sat_pure hq
  | f :: fs, ps, h, n, E, Q, hq => by
    unfold aPlaces at h
    split at h
    · rename_i tf r htf hr
      cases h
      obtain ⟨_, j, h2, h3, _⟩ := ok.ti _ tf htf
      rw [List.mapM_cons]
      refine sat_bind' (sat_bind' (sat_size h2 (sat_pure ?_)))
      refine sat_bind' (places_ok ok fs r hr _ ?_)
      rw [h3]
      exact sat_pure hq
    · cases h

noncomputable def aBuild (env : Env) (t : TypeId) (parts : List (Nat × Value)) : Option Value :=
  match env.ti t with
  | some ti => match ti.zero with
    | some z => match ti.und with
      | .struct fs => match aPlaces env fs.toList with
        | some ps => match aFill (nthP ps) z.cells.toList parts with
          | some cs => some (.agg ⟨cs⟩)
          | none => none
        | none => none
      | .array _ el => match env.ti el with
        | some te => match aFill (fun i => some (i * te.size, te.size)) z.cells.toList parts with
          | some cs => some (.agg ⟨cs⟩)
          | none => none
        | none => none
      | _ => none
    | none => none
  | none => none

theorem fill_sc {n : Nat} {place : Nat → Option (Nat × Nat)} : ∀ (parts : List (Nat × Value)) (cells r : List Value), aFill place cells parts = some r → (∀ v ∈ cells, Sc n v) → (∀ p ∈ parts, Sc n p.2) → ∀ v ∈ r, Sc n v
  | [], cells, r, h, hc, _ => by simp only [aFill, Option.some.injEq] at h; subst h; exact hc
  | (i, v) :: rest, cells, r, h, hc, hp => by
    unfold aFill at h
    split at h
    · cases h
    · cases hb : Nat.beq v.cells.toList.length ‹Nat› with
      | false => rw [hb] at h; cases h
      | true =>
        rw [hb] at h
        simp only [cond_true] at h
        split at h
        · rename_i c hcc
          obtain ⟨s1, s2, s3⟩ := splice_eq _ _ _ _ hcc
          refine fill_sc rest c r h (fun x hx => ?_) (fun p hp' => hp p (List.mem_cons_of_mem _ hp'))
          obtain ⟨k, hk⟩ := List.getElem?_of_mem hx
          rw [s3 k] at hk
          split at hk
          · exact (hp (i, v) (by simp)).cells x (by simpa using List.mem_of_getElem? hk)
          · exact hc x (List.mem_of_getElem? hk)
        · cases h

theorem closed_cells {z : Value} (h : Closedv z) : ∀ x ∈ z.cells.toList, Closedv x := by
  intro x hx σ
  have e := cells_ren σ z
  rw [h σ] at e
  exact amap_eq_mem (f := ren σ) (g := id) (l := z.cells) (by rw [← e, Array.map_id]) x (by simpa using hx)
theorem closed_map {l : List Value} (h : ∀ x ∈ l, Closedv x) (σ : Sub) : l.map (ren σ) = l := by
  conv => rhs; rw [← List.map_id l]
  exact List.map_congr_left fun x hx => h x hx σ

theorem sat_build (ok : EnvOk P env) (h : HR P G σ H nx F w) {t : TypeId} {parts : List (Nat × Value)} {v : Value} (hp : ∀ p ∈ parts, Sc nx p.2) (he : aBuild env t parts = some v) {n : Nat} :
    Sat P F n (Instr.build t (parts.map fun p => (p.1, ren σ p.2)).toArray) w (Post P G σ H nx F w v H nx) NoE := by
  unfold aBuild at he
  split at he
  · rename_i ti hti
    obtain ⟨h1, j, h2, h3, h4, h5, h6⟩ := ok.ti t ti hti
    split at he
    · rename_i z hz
      have hzc := closed_cells (h6 z hz)
      refine sat_bind' (sat_zero h2 (h5.trans hz) ?_)
      refine sat_bind' (sat_und h1 ?_)
      have done : ∀ (place : Nat → Option (Nat × Nat)) (cs : List Value), aFill place z.cells.toList parts = some cs → v = .agg ⟨cs⟩ →
          Instr.fill place z.cells (parts.map fun p => (p.1, ren σ p.2)) = some (cs.map (ren σ)).toArray ∧ Post P G σ H nx F w v H nx (.agg (cs.map (ren σ)).toArray) w := by
        rintro place cs hf rfl
        refine ⟨?_, post_pure h (sc_agg fun x hx => fill_sc _ _ _ hf (fun y hy => (hzc y hy).sc nx) hp x (by simpa using hx)) (by simp)⟩
        have := fill_ren (σ := σ) _ _ _ hf
        rw [closed_map hzc σ] at this
        simpa using this
      split at he
      · rename_i fs hund
        split at he
        · rename_i ps hps
          split at he
          · rename_i cs hcs
            cases he
            obtain ⟨d1, d2⟩ := done _ _ hcs rfl
            simp only [hund]
            rw [Array.mapM_eq_mapM_toList]
            refine sat_bind' ?_
            show Sat P F n (List.toArray <$> _) w _ _
            rw [map_eq_pure_bind]
            refine sat_bind' (places_ok ok _ _ hps _ (sat_pure ?_))
            have e : (fun i => ps.toArray[i]?) = nthP ps := by funext i; rw [nthP_eq]; simp
            rw [e]
            simp only [d1]
            exact sat_pure d2
          · cases he
        · cases he
      · rename_i m el hund
        split at he
        · rename_i te hte
          obtain ⟨_, j', g2, g3, _⟩ := ok.ti _ te hte
          split at he
          · rename_i cs hcs
            cases he
            obtain ⟨d1, d2⟩ := done _ _ hcs rfl
            simp only [hund]
            refine sat_bind' (sat_size g2 ?_)
            rw [g3]
            simp only [d1]
            exact sat_pure d2
          · cases he
        · cases he
      · cases he
    · cases he
  · cases he

noncomputable def aBuildSl (env : Env) (t : TypeId) (len : Nat) (parts : List (Nat × Value)) (H : AHeap) (nx : Nat) : Option (Value × AHeap × Nat) :=
  match env.ti t with
  | some ti => match ti.und with
    | .slice el => match env.ti el with
      | some te => match te.zero with
        | some z => bif Nat.blt (len * te.size) 1000000 && Nat.blt nx (2 ^ HD) && Nat.beq z.cells.toList.length te.size && Nat.blt 0 te.size then
            (match aFill (fun i => some (i * te.size, te.size)) (repK len z.cells.toList) parts with
            | some cs => some (.slice (some ⟨nx, 0, none⟩) len len, aNew el cs false H nx, nx + 1)
            | none => none) else none
        | none => none
      | none => none
    | _ => none
  | none => none

theorem sat_buildSl (ok : EnvOk P env) (h : HR P G σ H nx F w) {t : TypeId} {len : Nat} {parts : List (Nat × Value)} {v : Value} {H' : AHeap} {nx' : Nat} (hp : ∀ p ∈ parts, Sc nx p.2) (he : aBuildSl env t len parts H nx = some (v, H', nx')) {n : Nat} :
    Sat P F n (Instr.buildSlice t len (parts.map fun p => (p.1, ren σ p.2)).toArray) w (Post P G σ H nx F w v H' nx') NoE := by
  unfold aBuildSl at he
  split at he
  · rename_i ti hti
    obtain ⟨h1, _⟩ := ok.ti t ti hti
    split at he
    · rename_i el hund
      split at he
      · rename_i te hte
        obtain ⟨_, j, h2, h3, h4, h5, h6⟩ := ok.ti el te hte
        split at he
        · rename_i z hz
          have hzc := closed_cells (h6 z hz)
          cases hb : (Nat.blt (len * te.size) 1000000 && Nat.blt nx (2 ^ HD) && Nat.beq z.cells.toList.length te.size && Nat.blt 0 te.size) with
          | false => rw [hb] at he; cases he
          | true =>
            rw [hb] at he
            simp only [cond_true] at he
            simp only [Bool.and_eq_true] at hb
            obtain ⟨⟨⟨b2, b4⟩, b5⟩, b6⟩ := hb
            have b2 := blt_lt b2
            have b5 := Nat.eq_of_beq_eq_true b5
            have b6 := blt_lt b6
            have hzs : z.cells.size = j.size := by rw [h3, ← b5]; simp
            split at he
            · rename_i cs hcs
              cases he
              refine sat_bind' (sat_und h1 ?_)
              simp only [hund]
              refine sat_bind' (sat_size h2 ?_)
              rw [if_neg (by rw [h3]; omega)]
              have hrc : ∀ x ∈ repK len z.cells.toList, Closedv x := fun x hx => hzc x (repK_mem _ _ x hx)
              have fin : ∀ zc : Array Value, (Array.range (len * j.size)).map (fun i => zc[i % zc.size]!) = (repK len z.cells.toList).toArray →
                  Sat P F n (do
                    let some cells := Instr.fill (fun i => some (i * j.size, j.size)) ((Array.range (len * j.size)).map (fun i => zc[i % zc.size]!)) (parts.map fun p => (p.1, ren σ p.2)) | stuck "buildSlice: a part of the wrong size"
                    pure (.slice (some (← newRow el cells)) len len)) w (Post P G σ H nx F w (.slice (some ⟨nx, 0, none⟩) len len) (aNew el cs false H nx) (nx + 1)) NoE := by
                intro zc hzc'
                rw [hzc', h3]
                have := fill_ren (σ := σ) _ _ _ hcs
                rw [closed_map hrc σ] at this
                rw [this]
                refine sat_bind' (sat_newRow (sat_pure ?_))
                refine post_alloc h (blt_lt b4) (c := (cs.map (ren σ)).toArray) (fr := (0, 0)) 0 rfl (by simp) (fun i hi => by simp) (fun i _ => by simp) (fun _ => rfl) (fun x hx => fill_sc _ _ _ hcs (fun y hy => (hrc y hy).sc nx) hp x hx) (sc_slice (Nat.lt_succ_self _)) ?_
                simp [renA, upd_at]
              by_cases h0 : len * j.size = 0
              · rw [if_pos h0]
                refine sat_bind' (sat_pure ?_)
                refine fin #[] ?_
                rw [h0]
                have : len = 0 := by
                  rcases Nat.mul_eq_zero.1 h0 with e | e
                  · exact e
                  · omega
                subst this; simp [repK]
              · rw [if_neg h0]
                refine sat_bind' (sat_zero h2 (h5.trans hz) (sat_bind' (sat_pure ?_)))
                exact fin _ (range_rep z.cells len _ (by rw [hzs]))
            · cases he
        · cases he
      · cases he
    · cases he
  · cases he
end
end Go.Proofs.Evz

/-
  ENGINE 12. append, copy.
-/
namespace Go.Proofs.Evz
open Go Go.Conc

theorem growBy_le : ∀ (r n c : Nat), Builtin.growBy n r c ≤ c * 5 ^ r + 400 * 5 ^ r
  | 0, n, c => by simp [Builtin.growBy]
  | r + 1, n, c => by
    unfold Builtin.growBy
    have h5 : 5 ^ (r + 1) = 5 * 5 ^ r := by rw [Nat.pow_succ]; omega
    split
    · rw [h5]
      have : 1 ≤ 5 ^ r := Nat.one_le_pow _ _ (by omega)
      have h1 : c ≤ c * 5 ^ r := Nat.le_mul_of_pos_right c this
      have h2 : c * (5 * 5 ^ r) = 5 * (c * 5 ^ r) := by rw [← Nat.mul_assoc, Nat.mul_comm c 5, Nat.mul_assoc]
      omega
    · have := growBy_le r n (c + (c + 768) / 4)
      have hc : c + (c + 768) / 4 ≤ 2 * c + 200 := by omega
      have h1 : (c + (c + 768) / 4) * 5 ^ r ≤ (2 * c + 200) * 5 ^ r := Nat.mul_le_mul_right _ hc
      have h2 : (2 * c + 200) * 5 ^ r = 2 * (c * 5 ^ r) + 200 * 5 ^ r := by rw [Nat.add_mul, Nat.mul_assoc]
      have h3 : c * 5 ^ (r + 1) = 5 * (c * 5 ^ r) := by rw [h5, ← Nat.mul_assoc, Nat.mul_comm c 5, Nat.mul_assoc]
      rw [h3, h5]
      omega

theorem nextcap_le {n c : Nat} (h : c < n) : Builtin.nextslicecap n c ≤ 625 * n + 250000 := by
  unfold Builtin.nextslicecap
  split
  · omega
  · split
    · omega
    · have := growBy_le 4 n c
      have e : 5 ^ 4 = 625 := by decide
      rw [e] at this
      omega

section
variable {P : Program} {env : Env} {G : Nat} {σ : Sub} {H : AHeap} {nx : Nat} {F : Foot} {w : World}

/-- What is appended, or copied: how many elements, and their cells. -/
noncomputable def aCells (te : TI) (x : Value) (H : AHeap) : Option (Nat × List Value) :=
  match x with
  | .slice (some _) 0 _ => some (0, [])
  | .slice (some b) n _ => match H.at b.block with
    | some (.cells _ cs _ _) => match takeK (n * te.size) (dropK b.off cs) with
      | some l => some (n, l)
      | none => none
    | _ => none
  | .slice none 0 _ => some (0, [])
  | .string s => bif Nat.beq te.size 1 then some (s.data.toList.length, s.data.toList.map fun b => .int .u8 (Int.ofNat b.toNat)) else none
  | _ => none

theorem aCells_len {te : TI} {x : Value} {n : Nat} {l : List Value} (h : aCells te x H = some (n, l)) : l.length = n * te.size := by
  unfold aCells at h
  split at h
  · cases h; simp
  · split at h
    · split at h
      · rename_i l' hl; cases h
        obtain ⟨e1, e2⟩ := takeK_eq _ _ _ hl
        rw [e1, List.length_take]; omega
      · cases h
    · cases h
  · cases h; simp
  · cases hb : Nat.beq te.size 1 with
    | false => rw [hb] at h; cases h
    | true =>
      rw [hb] at h; cases h
      rw [Nat.eq_of_beq_eq_true hb]; simp
  · cases h

theorem aCells_sc (h : HR P G σ H nx F w) {te : TI} {x : Value} {n : Nat} {l : List Value} (hx : Sc nx x) (he : aCells te x H = some (n, l)) : ∀ v ∈ l, Sc nx v := by
  unfold aCells at he
  split at he
  · cases he; simp
  · rename_i b m _ _
    split at he
    · rename_i t cs gr ro ho
      split at he
      · rename_i l' hl; cases he
        obtain ⟨e1, e2⟩ := takeK_eq _ _ _ hl
        have hid := sc_slice_lt hx
        obtain ⟨_, c, fr, g1, g2, g3, g4, g5, g6, g7⟩ := h.live b.block _ (Nat.lt_of_lt_of_le hid h.top) ho
        intro v hv
        rw [e1, dropK_eq] at hv
        exact g6 v (List.mem_of_mem_drop (List.mem_of_mem_take hv))
      · cases he
    · cases he
  · cases he; simp
  · cases hb : Nat.beq te.size 1 with
    | false => rw [hb] at he; cases he
    | true =>
      rw [hb] at he; cases he
      intro v hv
      simp only [List.mem_map] at hv
      obtain ⟨b, _, rfl⟩ := hv
      exact sc_int _ _ _
  · cases he

theorem sat_cells (h : HR P G σ H nx F w) {te : TI} {x : Value} {n : Nat} {l : List Value} (hx : Sc nx x) (he : aCells te x H = some (n, l)) {m : Nat} {Q : Array Value → World → Prop} {E : Value → World → Prop}
    (hq : Q (l.map (ren σ)).toArray w) : Sat P F m (Builtin.firstCells te.size n (ren σ x)) w Q E := by
  have hlen := aCells_len he
  unfold aCells at he
  split at he
  · cases he
    rw [ren_slice]
    show Sat P F m (loadCells _ (0 * te.size)) w Q E
    rw [Nat.zero_mul]
    exact sat_pure hq
  · rename_i b k _ _
    split at he
    · rename_i t cs gr ro ho
      split at he
      · rename_i l' hl; cases he
        obtain ⟨e1, e2⟩ := takeK_eq _ _ _ hl
        rw [dropK_eq] at e1 e2
        have hid := sc_slice_lt hx
        rw [ren_slice]
        refine sat_loadCells (renA σ b) (h.see hid ho m) (l.map (ren σ)) _ (by rw [List.length_map, hlen]) (fun j hj => ?_) hq
        rw [List.length_map] at hj
        rw [h.cell hid ho j (by simp only [List.length_drop] at e2; omega), List.getElem?_map]
        congr 1
        rw [e1, List.getElem?_take, if_pos (by omega), List.getElem?_drop]
      · cases he
    · cases he
  · cases he
    rw [ren_slice_none]
    exact sat_pure hq
  · rename_i s
    cases hb : Nat.beq te.size 1 with
    | false => rw [hb] at he; cases he
    | true =>
      rw [hb] at he; cases he
      rw [ren_string]
      have e : ((s.extract 0 s.data.toList.length).data.map fun b => (Value.int .u8 b.toNat : Value)) = ((s.data.toList.map fun b => (Value.int .u8 (Int.ofNat b.toNat) : Value)).map (ren σ)).toArray := by
        have : s.extract 0 s.data.toList.length = s := by
          rw [extract_bytes]; rcases s with ⟨⟨l⟩⟩; simp
        rw [this]
        apply Array.toList_inj.1
        simp [Function.comp_def]
      show Q _ w
      rw [e]
      exact hq
  · cases he

theorem sat_lenOf {x : Value} {te : TI} {n : Nat} {l : List Value} (he : aCells te x H = some (n, l)) {m : Nat} {Q : Nat → World → Prop} {E : Value → World → Prop} (hq : Q n w) : Sat P F m (Builtin.lenOf (ren σ x)) w Q E := by
  unfold aCells at he
  split at he
  · cases he; rw [ren_slice]; exact hq
  · split at he
    · split at he
      · cases he; rw [ren_slice]; exact hq
      · cases he
    · cases he
  · cases he; rw [ren_slice_none]; exact hq
  · rename_i s
    cases hb : Nat.beq te.size 1 with
    | false => rw [hb] at he; cases he
    | true =>
      rw [hb] at he; cases he; rw [ren_string]
      have : s.data.toList.length = s.size := by cases s; rfl
      rw [this] at hq; exact hq
  · cases he

def notInt : TypeDesc → Bool
  | .int _ => false
  | _ => true

def zeroFits (te : TI) : Bool :=
  match te.zero with
  | some z => Nat.beq z.cells.toList.length te.size
  | none => false

noncomputable def aApp (env : Env) (t xt : TypeId) (s x : Value) (H : AHeap) (nx : Nat) : Option (Value × AHeap × Nat) :=
  match env.ti t, env.ti xt with
  | some ti, some xi => match ti.und with
    | .slice el => match env.ti el with
      | some te =>
        bif notInt xi.und && Nat.blt 0 te.size && Nat.blt nx (2 ^ HD) && Nat.blt te.bytes 1000 && zeroFits te then
        match s, aCells te x H with
        | .slice base len cap, some (n, new) =>
          let need := len + n
          bif Nat.blt need 1000000 then
          match base with
          | none => bif Nat.beq len 0 && Nat.beq cap 0 then
              (bif Nat.beq n 0 then some (.slice none 0 0, H, nx) else some (.slice (some ⟨nx, 0, none⟩) need need, aNew el new true H nx, nx + 1)) else none
          | some a => match H.at a.block with
            | some (.cells et cs gr ro) =>
              bif Nat.ble need cap then
                (bif ro || !allOne new then none else match splice (a.off + len * te.size) cs new with
                | some cs' => some (.slice base need cap, H.put a.block (some (.cells et cs' gr ro)), nx)
                | none => none)
              else match takeK (len * te.size) (dropK a.off cs) with
                | some old =>
                  bif !gr then some (.slice (some ⟨nx, 0, none⟩) need need, aNew el (old ++ new) true H nx, nx + 1)
                  else bif ro || !allOne new || !(Nat.beq (a.off + cap * te.size) cs.length) || !(Nat.beq et el) || Nat.blt cap len then none
                    else some (.slice (some ⟨nx, 0, none⟩) need need, (H.put a.block none).put nx (some (.cells el (old ++ new) true false)), nx + 1)
                | none => none
            | _ => none
          else none
        | _, _ => none
        else none
      | none => none
    | _ => none
  | _, _ => none


section
variable {m n len cap : Nat} {E : Value → World → Prop} {Q : Value → World → Prop} {t xt ty el : TypeId} {x : Value} {b : Option Addr} {ts : Array TypeId} {as : Array Value} {d : TypeDesc} {j : TypeInfo} {nw : Array Value}

theorem sat_pureEq {α : Type} {a b : α} {Q : α → World → Prop} (e : a = b) (h : Q b w) : Sat P F m (pure a) w Q E := e ▸ h

theorem app_in (ht0 : ts[0]? = some t) (ht1 : ts[1]? = some xt) (ha0 : as[0]? = some (.slice b len cap)) (ha1 : as[1]? = some x) (h1 : P.underlying t = some (.slice el)) (hx1 : P.underlying xt = some d) (hd : notInt d = true)
    (hj : P.info? el = some j) (hlen : ∀ Q : Nat → World → Prop, Q n w → Sat P F m (Builtin.lenOf x) w Q E) (hfit : len + n ≤ cap) (hnew : ∀ Q : Array Value → World → Prop, Q nw w → Sat P F m (Builtin.firstCells j.size n x) w Q E)
    (hst : match b with | some a => Sat P F m (storeCells (a.add (len * j.size)) nw.toList) w (fun _ w' => Q (.slice b (len + n) cap) w') E | none => Q (.slice b (len + n) cap) w) :
    Sat P F m (Builtin.append_ ts ty as) w Q E := by
  unfold Builtin.append_
  simp only [ht0, ha0, ha1]
  refine sat_bind' (sat_und h1 ?_)
  refine sat_bind' (sat_size hj ?_)
  simp only [ht1]
  refine sat_bind' (sat_und hx1 ?_)
  refine sat_bind' (sat_pureEq (b := false) (by cases d <;> first | rfl | cases hd) ?_)
  rw [if_neg Bool.false_ne_true]
  refine sat_bind' (hlen _ ?_)
  rw [if_pos hfit]
  simp only [Bool.not_false, if_true]
  refine sat_bind' (hnew _ ?_)
  cases b with
  | none => exact sat_pure hst
  | some a => exact sat_bind' (sat_mono _ hst (fun _ _ h => sat_pure h) fun _ _ h => h)

theorem app_grow (ht0 : ts[0]? = some t) (ht1 : ts[1]? = some xt) (ha0 : as[0]? = some (.slice b len cap)) (ha1 : as[1]? = some x) (h1 : P.underlying t = some (.slice el)) (hx1 : P.underlying xt = some d) (hd : notInt d = true)
    (hj : P.info? el = some j) {z : Value} (hz : j.zero = some z) (hlen : ∀ Q : Nat → World → Prop, Q n w → Sat P F m (Builtin.lenOf x) w Q E) (hfit : ¬ len + n ≤ cap) (hneed : len + n < 1000000) (hbytes : j.bytes < 1000)
    {old : Array Value} (hold : ∀ (k : Nat) (Q : Array Value → World → Prop), Q old { w with drawn := k } → Sat P F m (Builtin.firstCells j.size len (.slice b len cap)) { w with drawn := k } Q E)
    (hnew : ∀ (k : Nat) (Q : Array Value → World → Prop), Q nw { w with drawn := k } → Sat P F m (Builtin.firstCells j.size n x) { w with drawn := k } Q E)
    (hq : ∀ newCap k, len + n ≤ newCap → Q (.slice (some ⟨w.heap.size, 0, none⟩) (len + n) newCap) { w with heap := w.heap.push (.cells (old ++ nw ++ Builtin.zeroCells z.cells (newCap - (len + n))) el), drawn := k }) :
    Sat P F m (Builtin.append_ ts ty as) w Q E := by
  unfold Builtin.append_
  simp only [ht0, ha0, ha1]
  refine sat_bind' (sat_und h1 ?_)
  refine sat_bind' (sat_size hj ?_)
  simp only [ht1]
  refine sat_bind' (sat_und hx1 ?_)
  refine sat_bind' (sat_pureEq (b := false) (by cases d <;> first | rfl | cases hd) ?_)
  rw [if_neg Bool.false_ne_true]
  refine sat_bind' (hlen _ ?_)
  rw [if_neg hfit]
  refine sat_bind' (sat_info hj ?_)
  have hbig : ¬ (((len + n : Nat) : Int) > IntKind.i64.max ∧ (false = true ∨ j.bytes = 0)) := by
    rintro ⟨h, _⟩
    have : IntKind.i64.max = 9223372036854775807 := by decide
    rw [this] at h; omega
  rw [if_neg hbig]
  refine sat_bind' (sat_info hj ?_)
  have hcap := nextcap_le (n := len + n) (c := cap) (by omega)
  have hb2 : ¬ (Builtin.nextslicecap (len + n) cap * j.bytes > 2 ^ 48) := by
    have : Builtin.nextslicecap (len + n) cap * j.bytes ≤ (625 * 1000000 + 250000) * 1000 := Nat.mul_le_mul (by omega) (by omega)
    omega
  rw [if_neg hb2]
  refine sat_bind' ?_
  show (if _ then _ else _)
  rw [if_neg (by simp [Question.forced])]
  intro t'
  refine sat_pure ?_
  have hge : len + n ≤ (Question.appendCap (len + n) cap el).cut t' := by simp [Question.cut]
  generalize (Question.appendCap (len + n) cap el).cut t' = newCap at hge
  refine sat_bind' (sat_info hj ?_)
  refine sat_bind' (sat_askRoom ?_)
  refine sat_bind' (hold _ _ ?_)
  simp only [Bool.not_false, if_true]
  refine sat_bind' (hnew _ _ ?_)
  refine sat_bind' (sat_zero hj hz ?_)
  exact sat_bind' (sat_newRow (sat_pure (hq newCap _ hge)))
end

theorem sat_app (ok : EnvOk P env) (h : HR P G σ H nx F w) {t xt ty : TypeId} {s x v : Value} {H' : AHeap} {nx' : Nat} {ts : Array TypeId} {as : Array Value} (ht0 : ts[0]? = some t) (ht1 : ts[1]? = some xt)
    (ha0 : as[0]? = some (ren σ s)) (ha1 : as[1]? = some (ren σ x)) (hs : Sc nx s) (hx : Sc nx x) (he : aApp env t xt s x H nx = some (v, H', nx')) :
    Sat P F w.heap.size (Builtin.append_ ts ty as) w (Post P G σ H nx F w v H' nx') NoE := by
  unfold aApp at he
  split at he
  · rename_i ti xi hti hxi
    obtain ⟨h1, _⟩ := ok.ti t ti hti
    obtain ⟨hx1, _⟩ := ok.ti xt xi hxi
    split at he
    · rename_i el hund
      split at he
      · rename_i te hte
        obtain ⟨_, j, h2, h3, h4, h5, h6⟩ := ok.ti el te hte
        cases hb : (notInt xi.und && Nat.blt 0 te.size && Nat.blt nx (2 ^ HD) && Nat.blt te.bytes 1000 && zeroFits te) with
        | false => rw [hb] at he; cases he
        | true =>
        rw [hb] at he
        simp only [cond_true] at he
        simp only [Bool.and_eq_true] at hb
        obtain ⟨⟨⟨⟨b0, b1⟩, b2⟩, b3⟩, b4⟩ := hb
        have b1 := blt_lt b1
        have b2 := blt_lt b2
        have b3 := blt_lt b3
        have hcell : P.cellsOf el = te.size := by rw [Program.cellsOf, h2]; simp [h3]
        obtain ⟨z, hz, hzl⟩ : ∃ z, te.zero = some z ∧ z.cells.toList.length = te.size := by
          unfold zeroFits at b4
          split at b4
          · rename_i z hz; exact ⟨z, hz, Nat.eq_of_beq_eq_true b4⟩
          · cases b4
        split at he
        · rename_i base len cap n new hcs
          have hnl := aCells_len hcs
          have hnsc := aCells_sc h hx hcs
          cases hneed : Nat.blt (len + n) 1000000 with
          | false => rw [hneed] at he; cases he
          | true =>
          rw [hneed] at he
          simp only [cond_true] at he
          have hneed := blt_lt hneed
          have hN : ∀ Q : Nat → World → Prop, Q n w → Sat P F w.heap.size (Builtin.lenOf (ren σ x)) w Q NoE := fun Q hq => sat_lenOf hcs hq
          have hC : ∀ (w0 : World), w0.heap = w.heap → ∀ Q : Array Value → World → Prop, Q (new.map (ren σ)).toArray w0 → Sat P F w.heap.size (Builtin.firstCells j.size n (ren σ x)) w0 Q NoE := fun w0 e Q hq => by
            rw [h3]; exact sat_cells (h.heapEq e) hx hcs hq
          -- a new array
          have grow : ∀ (b : Option Addr) (cap' : Nat) (old : List Value), ren σ (.slice base len cap) = .slice b len cap' → ¬ len + n ≤ cap' → old.length = len * te.size → (∀ v ∈ old, Sc nx v) →
              (∀ (w0 : World), w0.heap = w.heap → ∀ Q : Array Value → World → Prop, Q (old.map (ren σ)).toArray w0 → Sat P F w.heap.size (Builtin.firstCells j.size len (.slice b len cap')) w0 Q NoE) →
              ∀ (H2 : AHeap), (HR P G σ H2 nx F w ∧ Keeps σ H F w σ H2 F w) →
              Sat P F w.heap.size (Builtin.append_ ts ty as) w (Post P G σ H nx F w (.slice (some ⟨nx, 0, none⟩) (len + n) (len + n)) (aNew el (old ++ new) true H2 nx) (nx + 1)) NoE := by
            intro b cap' old hb hfit hol hosc hold H2 hH2
            refine app_grow (z := z) ht0 ht1 (hb ▸ ha0) ha1 (by rw [h1, hund]) hx1 b0 h2 (h5.trans hz) hN hfit hneed (by rw [h4]; exact b3) (fun k => hold _ rfl) (fun k => hC _ rfl) ?_
            intro newCap k hge
            have hP := post_alloc hH2.1 b2 (t := el) (cs := old ++ new) (c := (old.map (ren σ)).toArray ++ (new.map (ren σ)).toArray ++ Builtin.zeroCells z.cells (newCap - (len + n))) (fr := (0, 0)) (gr := true)
              (newCap - (len + n)) (v := .slice (some ⟨nx, 0, none⟩) (len + n) (len + n)) (r := .slice (some ⟨w.heap.size, 0, none⟩) (len + n) newCap)
              (w' := { w with heap := w.heap.push (.cells ((old.map (ren σ)).toArray ++ (new.map (ren σ)).toArray ++ Builtin.zeroCells z.cells (newCap - (len + n))) el), drawn := k }) rfl ?_ ?_ (fun i _ => by simp) (by simp) ?_ (sc_slice (Nat.lt_succ_self _)) ?_
            · obtain ⟨σ', p1, p2, p3, p4, p5, p6⟩ := hP
              exact ⟨σ', p1, p2, p3, p4, p5, hH2.2.trans p6⟩
            · have hzz : z.cells.size = te.size := by rw [← hzl]; simp
              simp only [List.length_append, hol, hnl, hcell, Array.size_append, List.size_toArray, List.length_map, Builtin.zeroCells, Array.size_map, Array.size_range, hzz]
              exact Nat.le_refl _
            · intro i hi
              rw [Array.getElem?_append_left (by simpa using hi)]
              simp only [List.append_toArray, List.getElem?_toArray, ← List.map_append, List.getElem?_map]
            · intro v hv
              rcases List.mem_append.1 hv with h' | h'
              · exact hosc v h'
              · exact hnsc v h'
            · simp [renA, upd_at]; omega
          have same : HR P G σ H nx F w ∧ Keeps σ H F w σ H F w := ⟨h, Keeps.refl⟩
          split at he
          · -- nil
            cases hb : (Nat.beq len 0 && Nat.beq cap 0) with
            | false => rw [hb] at he; cases he
            | true =>
            rw [hb] at he
            simp only [cond_true] at he
            rw [Bool.and_eq_true] at hb
            have e1 := Nat.eq_of_beq_eq_true hb.1
            have e2 := Nat.eq_of_beq_eq_true hb.2
            subst e1; subst e2
            cases hn0 : Nat.beq n 0 with
            | true =>
              rw [hn0] at he
              have e3 := Nat.eq_of_beq_eq_true hn0
              subst e3
              cases he
              refine app_in (b := none) (len := 0) (cap := 0) (n := 0) ht0 ht1 (by rw [ha0, ren_slice_none]) ha1 (by rw [h1, hund]) hx1 b0 h2 hN (by omega) (hC w rfl) ?_
              exact post_pure h (fun _ _ _ => by simp) (by simp)
            | false =>
              rw [hn0] at he
              cases he
              have hne := beq_ne hn0
              have := grow none 0 [] (by simp) (by omega) (by simp) (by simp) (fun w0 _ Q hq => sat_pure hq) H same
              exact this
          · rename_i a
            have hid := sc_slice_lt hs
            split at he
            · rename_i et cs gr ro ho
              obtain ⟨_, c, fr, g1, g2, g3, g4, g5, g6, g7⟩ := h.live a.block _ (Nat.lt_of_lt_of_le hid h.top) ho
              have hoff : (renA σ a).off = (σ a.block).off + a.off := rfl
              cases hfit : Nat.ble (len + n) cap with
              | true =>
                rw [hfit] at he
                have hfit := ble_le hfit
                simp only [cond_true] at he
                cases hb : (ro || !allOne new) with
                | true => rw [hb] at he; cases he
                | false =>
                rw [hb] at he
                simp only [cond_false] at he
                rw [Bool.or_eq_false_iff] at hb
                obtain ⟨hro, hone⟩ := hb
                subst hro
                have hone := allOne_eq _ (by simpa using hone : allOne new = true)
                split at he
                · rename_i cs' hsp
                  cases he
                  obtain ⟨s1, s2, s3⟩ := splice_eq _ _ _ _ hsp
                  simp only [Bool.false_eq_true, if_false] at g7
                  refine app_in (b := some (renA σ a)) (len := len) (cap := cap + (σ a.block).slack) (n := n) ht0 ht1 (by rw [ha0, ren_slice]) ha1 (by rw [h1, hund]) hx1 b0 h2 hN (by omega) (hC w rfl) ?_
                  show Sat P F _ (storeCells _ _) w _ _
                  rw [h3]
                  refine sat_storeCells (t := et) (fr := fr) _ (.inl (by rw [add_block']; exact g7)) (by unfold Addr.add renA; split <;> rfl) _ 0 w c (by rw [add_block']; exact g1) ?_ g4 ?_ ?_
                  · simp only [List.length_map, Nat.add_zero]
                    have : ((renA σ a).add (len * te.size)).off = (σ a.block).off + (a.off + len * te.size) := by
                      unfold Addr.add; split
                      · rename_i h0; rw [h0]; rfl
                      · rw [hoff]; simp [Nat.add_assoc]
                    rw [this]; omega
                  · intro v hv
                    simp only [List.mem_map] at hv
                    obtain ⟨y, hy, rfl⟩ := hv
                    rw [one_ren]; exact hone y hy
                  · have eoff : ((renA σ a).add (len * te.size)).off = (σ a.block).off + (a.off + len * te.size) := by
                      unfold Addr.add; split
                      · rename_i h0; rw [h0]; rfl
                      · rw [hoff]; simp [Nat.add_assoc]
                    rw [add_block', eoff]
                    have hk := h.turn (id := a.block) (o := .cells et cs gr false) (o' := .cells et cs' gr false) hid ho (ob := .cells (wr c ((σ a.block).off + (a.off + len * te.size) + 0) (new.map (ren σ))) et fr) ?_
                    · refine ⟨σ, Agree.refl _ _, Nat.le_refl _, by rw [ren_slice], ?_, ?_, ?_⟩
                      · exact sc_slice hid
                      · rw [show (renA σ a).block = (σ a.block).blk from rfl, putB_size, grow_self]; exact hk.1
                      · rw [show (renA σ a).block = (σ a.block).blk from rfl, putB_size, grow_self]; exact hk.2
                    · refine ⟨_, fr, putB_at g1, ?_, ?_, ?_, g5, ?_, by simpa using g7⟩
                      · rw [wr_size, s1]; exact g2
                      · intro i hi
                        rw [s1] at hi
                        rw [wr_get _ _ _ _ (by rw [List.length_map]; omega), s3 i, List.length_map]
                        by_cases e : a.off + len * te.size ≤ i ∧ i < a.off + len * te.size + new.length
                        · rw [if_pos e, if_pos (by omega)]
                          have : (σ a.block).off + i - ((σ a.block).off + (a.off + len * te.size) + 0) = i - (a.off + len * te.size) := by omega
                          rw [this, List.getElem?_map]
                        · rw [if_neg e, if_neg (by omega)]
                          exact g3 i hi
                      · rw [wr_size]; exact g4
                      · intro v hv
                        obtain ⟨k, hk⟩ := List.getElem?_of_mem hv
                        rw [s3 k] at hk
                        split at hk
                        · exact hnsc v (List.mem_of_getElem? hk)
                        · exact g6 v (List.mem_of_getElem? hk)
                · cases he
              | false =>
                rw [hfit] at he
                simp only [cond_false] at he
                have hfit : ¬ len + n ≤ cap := fun e => by
                  have := Nat.ble_eq_true_of_le e
                  rw [this] at hfit; cases hfit
                split at he
                · rename_i old hold
                  obtain ⟨e1, e2⟩ := takeK_eq _ _ _ hold
                  rw [dropK_eq] at e1 e2
                  have hol : old.length = len * te.size := by rw [e1, List.length_take]; omega
                  have hosc : ∀ v ∈ old, Sc nx v := fun v hv => by
                    rw [e1] at hv
                    exact g6 v (List.mem_of_mem_drop (List.mem_of_mem_take hv))
                  have holds : ∀ (w0 : World), w0.heap = w.heap → ∀ Q : Array Value → World → Prop, Q (old.map (ren σ)).toArray w0 → Sat P F w.heap.size (Builtin.firstCells j.size len (.slice (some (renA σ a)) len (cap + (σ a.block).slack))) w0 Q NoE := by
                    intro w0 e Q hq
                    have h' := h.heapEq e
                    refine sat_loadCells (renA σ a) (h'.see hid ho _) (old.map (ren σ)) _ (by rw [List.length_map, hol, h3]) (fun k hk => ?_) hq
                    rw [List.length_map] at hk
                    rw [h'.cell hid ho k (by simp only [List.length_drop] at e2; omega), List.getElem?_map]
                    congr 1
                    rw [e1, List.getElem?_take, if_pos (by omega), List.getElem?_drop]
                  cases gr with
                  | false =>
                    simp only [Bool.not_false, cond_true] at he
                    cases he
                    have hsl := g5 rfl
                    exact grow _ _ old (by rw [ren_slice]) (by omega) hol hosc holds H same
                  | true =>
                    simp only [Bool.not_true, cond_false] at he
                    cases hb : (ro || !allOne new || !(Nat.beq (a.off + cap * te.size) cs.length) || !(Nat.beq et el) || Nat.blt cap len) with
                    | true => rw [hb] at he; cases he
                    | false =>
                    rw [hb] at he
                    cases he
                    simp only [Bool.or_eq_false_iff, Bool.not_eq_false'] at hb
                    obtain ⟨⟨⟨⟨hro, hone⟩, hend⟩, hel⟩, hcl⟩ := hb
                    subst hro
                    have hone := allOne_eq _ hone
                    have hend := Nat.eq_of_beq_eq_true hend
                    have hel := Nat.eq_of_beq_eq_true hel
                    subst hel
                    have hcl : len ≤ cap := by
                      rcases Nat.lt_or_ge cap len with h' | h'
                      · have : Nat.blt cap len = true := Nat.ble_eq_true_of_le h'
                        rw [this] at hcl; cases hcl
                      · exact h'
                    simp only [Bool.false_eq_true, if_false] at g7
                    have hmul : len * te.size ≤ cap * te.size := Nat.mul_le_mul_right _ hcl
                    by_cases hroom : len + n ≤ cap + (σ a.block).slack
                    · -- there is room: the array is written
                      refine app_in (b := some (renA σ a)) (len := len) (cap := cap + (σ a.block).slack) (n := n) ht0 ht1 (by rw [ha0, ren_slice]) ha1 (by rw [h1, hund]) hx1 b0 h2 hN hroom (hC w rfl) ?_
                      have hspace : (len + n) * te.size ≤ (cap + (σ a.block).slack) * te.size := Nat.mul_le_mul_right _ hroom
                      rw [Nat.add_mul, Nat.add_mul] at hspace
                      rw [hcell] at g2
                      have eoff : ((renA σ a).add (len * te.size)).off = (σ a.block).off + (a.off + len * te.size) := by
                        unfold Addr.add; split
                        · rename_i h0; rw [h0]; rfl
                        · rw [hoff]; simp [Nat.add_assoc]
                      show Sat P F _ (storeCells _ _) w _ _
                      rw [h3]
                      refine sat_storeCells (t := et) (fr := fr) _ (.inl (by rw [add_block']; exact g7)) (by unfold Addr.add renA; split <;> rfl) _ 0 w c (by rw [add_block']; exact g1) ?_ g4 ?_ ?_
                      · simp only [List.length_map, Nat.add_zero]
                        rw [eoff, hnl]; omega
                      · intro v hv
                        simp only [List.mem_map] at hv
                        obtain ⟨y, hy, rfl⟩ := hv
                        rw [one_ren]; exact hone y hy
                      · rw [add_block', eoff]
                        have hk := h.become b2 (id := a.block) (o := .cells et cs true false) (o' := .cells et (old ++ new) true false) (s := ⟨(σ a.block).blk, (σ a.block).off + a.off, cap + (σ a.block).slack - (len + n)⟩) hid ho
                          (ob := .cells (wr c ((σ a.block).off + (a.off + len * te.size) + 0) (new.map (ren σ))) et fr) rfl ?_
                        · refine ⟨upd σ nx ⟨(σ a.block).blk, (σ a.block).off + a.off, cap + (σ a.block).slack - (len + n)⟩, upd_agree _ _ _, Nat.le_succ _, ?_, sc_slice (Nat.lt_succ_self _), ?_, ?_⟩
                          · rw [ren_slice]; simp only [renA, upd_at, Nat.add_zero]; congr 1; omega
                          · rw [show (renA σ a).block = (σ a.block).blk from rfl, putB_size, grow_self]; exact hk.1
                          · rw [show (renA σ a).block = (σ a.block).blk from rfl, putB_size, grow_self]; exact hk.2
                        · refine ⟨_, fr, by rw [upd_at]; exact putB_at g1, ?_, ?_, ?_, by simp, ?_, by rw [upd_at]; simpa using g7⟩
                          · rw [upd_at, wr_size, List.length_append, hol, hnl, hcell]
                            have : (cap + (σ a.block).slack - (len + n)) * te.size = (cap * te.size + (σ a.block).slack * te.size) - (len * te.size + n * te.size) := by
                              rw [Nat.sub_mul, Nat.add_mul, Nat.add_mul]
                            rw [this]
                            simp only
                            omega
                          · intro i hi
                            rw [upd_at]
                            simp only
                            rw [List.length_append, hol, hnl] at hi
                            rw [wr_get _ _ _ _ (by rw [List.length_map, hnl]; omega), List.length_map, hnl]
                            by_cases e : len * te.size ≤ i
                            · rw [if_pos (by omega), List.getElem?_append_right (by omega), List.getElem?_map, hol]
                              have : (σ a.block).off + a.off + i - ((σ a.block).off + (a.off + len * te.size) + 0) = i - len * te.size := by omega
                              rw [this]
                              cases hnv : new[i - len * te.size]? with
                              | none => rfl
                              | some y => simp only [Option.map_some]; rw [hnsc y (List.mem_of_getElem? hnv) σ _ (upd_agree _ _ _)]
                            · rw [if_neg (by omega), List.getElem?_append_left (by omega)]
                              have e3 : (σ a.block).off + a.off + i = (σ a.block).off + (a.off + i) := by omega
                              rw [e3, g3 _ (by simp only [List.length_drop] at e2; omega)]
                              have e4 : old[i]? = cs[a.off + i]? := by rw [e1, List.getElem?_take, if_pos (by omega), List.getElem?_drop]
                              rw [e4]
                              cases hcv : cs[a.off + i]? with
                              | none => rfl
                              | some y => simp only [Option.map_some]; rw [g6 y (List.mem_of_getElem? hcv) σ _ (upd_agree _ _ _)]
                          · rw [wr_size]; exact g4
                          · intro v hv
                            rcases List.mem_append.1 hv with h' | h'
                            · exact (hosc v h').mono (Nat.le_succ _)
                            · exact (hnsc v h').mono (Nat.le_succ _)
                    · -- no room: a new array; the old one is forgotten
                      exact grow _ _ old (by rw [ren_slice]) hroom hol hosc holds (H.put a.block none) (h.forget hid)
                · cases he
            · cases he
        · cases he
      · cases he
    · cases he
  · cases he
end
end Go.Proofs.Evz

/-
  ENGINE 12C. clear.
-/
namespace Go.Proofs.Evz
open Go Go.Conc

noncomputable def aClear (env : Env) (t : TypeId) (x : Value) (H : AHeap) : Option AHeap :=
  match env.ti t with
  | some ti => match ti.und, x with
    | .slice _, .slice none _ _ => some H
    | .slice el, .slice (some a) n _ => match env.ti el, H.at a.block with
      | some te, some (.cells et cs gr ro) => match te.zero with
        | some z => bif ro || !allOne z.cells.toList || Nat.beq n 0 then none else match splice a.off cs (repK n z.cells.toList) with
          | some cs' => some (H.put a.block (some (.cells et cs' gr ro)))
          | none => none
        | none => none
      | _, _ => none
    | _, _ => none
  | none => none

section
variable {P : Program} {G : Nat} {env : Env} {σ : Sub} {H : AHeap} {nx : Nat} {F : Foot} {w : World}

/-- Cells laid down in an object of one's own. -/
theorem sat_lay (h : HR P G σ H nx F w) {a : Addr} (hid : a.block < nx) {et : TypeId} {cs cs' vs : List Value} {gr : Bool} (ho : H.at a.block = some (.cells et cs gr false)) (hs : splice a.off cs vs = some cs') (hone : ∀ v ∈ vs, one v = true) (hsc : ∀ v ∈ vs, Sc nx v)
    {Q : Unit → World → Prop} {E : Value → World → Prop} (hq : ∀ w', HR P G σ (H.put a.block (some (.cells et cs' gr false))) nx (F.grow w.heap.size w'.heap.size) w' → Keeps σ H F w σ (H.put a.block (some (.cells et cs' gr false))) (F.grow w.heap.size w'.heap.size) w' → Q () w') :
    Sat P F w.heap.size (storeCells (renA σ a) (vs.map (ren σ))) w Q E := by
  obtain ⟨_, c, fr, g1, g2, g3, g4, g5, g6, g7⟩ := h.live a.block _ (Nat.lt_of_lt_of_le hid h.top) ho
  simp only [Bool.false_eq_true, if_false] at g7
  obtain ⟨s1, s2, s3⟩ := splice_eq _ _ _ _ hs
  refine sat_storeCells (t := et) (fr := fr) (renA σ a) (.inl g7) rfl _ 0 w c g1 ?_ g4 ?_ ?_
  · simp only [List.length_map]
    have : (renA σ a).off = (σ a.block).off + a.off := rfl
    rw [this]; omega
  · intro v hv
    simp only [List.mem_map] at hv
    obtain ⟨x, hx, rfl⟩ := hv
    rw [one_ren]; exact hone x hx
  · have hk := h.turn (id := a.block) (o := .cells et cs gr false) (o' := .cells et cs' gr false) hid ho (ob := .cells (wr c ((renA σ a).off + 0) (vs.map (ren σ))) et fr) ?_
    · refine hq _ ?_ ?_
      · rw [putB_size, grow_self]; exact hk.1
      · rw [putB_size, grow_self]; exact hk.2
    · refine ⟨_, fr, putB_at g1, ?_, ?_, ?_, g5, ?_, by simpa using g7⟩
      · rw [wr_size, s1]; exact g2
      · intro i hi
        rw [s1] at hi
        have e1 : (renA σ a).off = (σ a.block).off + a.off := rfl
        have e2 : (vs.map (ren σ)).length = vs.length := by simp
        rw [wr_get _ _ _ _ (by rw [e1, e2]; omega), s3 i, e1, e2]
        by_cases e : a.off ≤ i ∧ i < a.off + vs.length
        · rw [if_pos e, if_pos (by omega)]
          have : (σ a.block).off + i - ((σ a.block).off + a.off + 0) = i - a.off := by omega
          rw [this]
          simp
        · rw [if_neg e, if_neg (by omega)]
          exact g3 i hi
      · rw [wr_size]; exact g4
      · intro v hv
        obtain ⟨k, hk⟩ := List.getElem?_of_mem hv
        rw [s3 k] at hk
        split at hk
        · exact hsc v (List.mem_of_getElem? hk)
        · exact g6 v (List.mem_of_getElem? hk)

theorem sat_clear (ok : EnvOk P env) (h : HR P G σ H nx F w) {t ty : TypeId} {x : Value} {H' : AHeap} {ts : Array TypeId} {as : Array Value} (hx : Sc nx x) (he : aClear env t x H = some H') (ht : ts[0]? = some t) (ha : as[0]? = some (ren σ x)) :
    Sat P F w.heap.size (Builtin.clear_ ts ty as) w (Post P G σ H nx F w undef H' nx) NoE := by
  unfold aClear at he
  split at he
  · rename_i ti hti
    obtain ⟨h1, _⟩ := ok.ti t ti hti
    split at he
    · rename_i el l c hund
      cases he
      unfold Builtin.clear_
      simp only [ht, ha, ren_slice_none]
      refine sat_bind' (sat_und h1 ?_)
      exact sat_pure (post_pure h (sc_undef _) (by simp [undef]))
    · rename_i el a n cap hund
      split at he
      · rename_i te et cs gr ro hte ho
        obtain ⟨_, j, h2, _, _, h5, h6⟩ := ok.ti _ te hte
        split at he
        · rename_i z hz
          cases hb : (ro || !allOne z.cells.toList || Nat.beq n 0) with
          | true => rw [hb] at he; cases he
          | false =>
            rw [hb] at he
            simp only [cond_false] at he
            simp only [Bool.or_eq_false_iff, Bool.not_eq_false'] at hb
            obtain ⟨⟨rfl, hone⟩, hn⟩ := hb
            have hn0 := beq_ne hn
            split at he
            · rename_i cs' hs
              cases he
              unfold Builtin.clear_
              simp only [ht, ha, ren_slice]
              refine sat_bind' (sat_und h1 ?_)
              simp only [hund]
              have hzc : Closedv z := h6 z hz
              have hcl : ∀ v ∈ repK n z.cells.toList, Closedv v := fun v hv σ' => by
                have hm := repK_mem _ _ v hv
                have : (ren σ' z).cells = z.cells := by rw [hzc σ']
                rw [cells_ren] at this
                have e2 : z.cells.map (ren σ') = z.cells.map id := by rw [this, Array.map_id]
                exact amap_eq_mem e2 v (by simpa using hm)
              have hlist : (Builtin.zeroCells z.cells n).toList = (repK n z.cells.toList).map (ren σ) := by
                unfold Builtin.zeroCells
                rw [range_rep z.cells n _ rfl]
                simp only
                rw [List.map_congr_left (g := id) fun v hv => hcl v hv σ, List.map_id]
              cases n with
              | zero => exact absurd rfl hn0
              | succ n =>
                refine sat_bind' (sat_zero h2 (by rw [h5]; exact hz) ?_)
                rw [hlist]
                refine sat_bind' (sat_lay h (sc_slice_lt hx) ho hs (fun v hv => allOne_eq _ hone v (repK_mem _ _ v hv)) (fun v hv => (hcl v hv).sc _) fun w' k1 k2 => ?_)
                exact sat_pure ⟨σ, Agree.refl _ _, Nat.le_refl _, by simp [undef], sc_undef _, k1, k2⟩
            · cases he
        · cases he
      · cases he
    · cases he
  · cases he
end
end Go.Proofs.Evz

/-
  ENGINE 13. The evaluator. (Written for the kernel: what is matched on comes first, so that little is copied at each step.)
-/
namespace Go.Proofs.Evz
open Go Go.Conc

abbrev TD : Nat := 8
abbrev ATmp := Trie Value

inductive RC where
  | no
  | avail (v : Value)
  | done

structure St where
  tm : ATmp
  nt : Nat
  H : AHeap
  nx : Nat
  df : List Deferred
  rc : RC

noncomputable def tget (tm : ATmp) (t : Nat) : Value := @Option.rec Value (fun _ => Value) undef (fun v => v) (Trie.get tm t)
noncomputable def tput (tm : ATmp) (t : Nat) (v : Value) : ATmp := Trie.set TD (.tip v) tm t

noncomputable def opv : Operand → Env → ATmp → Nat → Option Value
  | .tmp t => fun _ tm nt => @Bool.rec (fun _ => Option Value) none (some (tget tm t)) (Nat.blt t nt)
  | .const v => fun _ _ _ => @Bool.rec (fun _ => Option Value) none (some v) (closedB 3 v)
  | .global g => fun env _ _ => @Bool.rec (fun _ => Option Value) none (some (.pointer (some ⟨g, 0, none⟩))) (Nat.blt g env.G)
  | .func f => fun _ _ _ => some (.func (.func f) #[] #[])

abbrev Rho := Operand → Option Value

noncomputable def opvs : List Operand → Rho → Option (List Value)
  | [] => fun _ => some []
  | x :: xs => fun ρ => match ρ x, opvs xs ρ with
    | some v, some vs => some (v :: vs)
    | _, _ => none
noncomputable def opvp : List (Nat × Operand) → Rho → Option (List (Nat × Value))
  | [] => fun _ => some []
  | (i, x) :: xs => fun ρ => match ρ x, opvp xs ρ with
    | some v, some vs => some ((i, v) :: vs)
    | _, _ => none
/-- An operand that may be absent. -/
def opvo : Option Operand → Rho → Option (Option Value)
  | none => fun _ => some none
  | some x => fun ρ => match ρ x with | some v => some (some v) | none => none

inductive Eff where
  | val (v : Value) (H : AHeap) (nx : Nat)
  | call (f : FuncId) (args : List Value)
  | panic (v : Value)
  | defer (d : Deferred)
  | recover
  | no

def Eff.ofV : Option Value → AHeap → Nat → Eff
  | some v => fun H nx => .val v H nx
  | none => fun _ _ => .no
def Eff.ofH : Option AHeap → Nat → Eff
  | some H => fun nx => .val undef H nx
  | none => fun _ => .no
def Eff.ofA : Option (Value × AHeap × Nat) → Eff
  | some (v, H, nx) => .val v H nx
  | none => .no
def with1 : Option Value → (Value → Eff) → Eff
  | some v => fun k => k v
  | none => fun _ => .no

/-! ### numbers, for the kernel -/
def lim : IntKind → Nat
  | .i8 => 128
  | .i16 => 32768
  | .i32 => 2147483648
  | .i64 => 9223372036854775808
  | .u8 => 256
  | .u16 => 65536
  | .u32 => 4294967296
  | .u64 => 18446744073709551616
/-- A number, looked at (the kernel reckons it), handed on. -/
noncomputable def forced (k : IntKind) (m : Nat) : Value := @Nat.casesOn (fun _ => Value) m (.int k (.ofNat 0)) (fun p => .int k (.ofNat (Nat.succ p)))
theorem forced_eq (k : IntKind) (m : Nat) : forced k m = .int k (.ofNat m) := by cases m <;> rfl
noncomputable def wrapV : Int → IntKind → Value
  | .ofNat m => fun k => @Bool.rec (fun _ => Value) (.int k (IntKind.wrap k (.ofNat m))) (forced k m) (Nat.blt m (lim k))
  | .negSucc m => fun k => .int k (IntKind.wrap k (.negSucc m))
theorem wrap_lim (k : IntKind) (m : Nat) (h : m < lim k) : IntKind.wrap k (.ofNat m) = .ofNat m := by
  have hm : (Int.ofNat m) < (lim k : Int) := Int.ofNat_lt.2 h
  have hl : (lim k : Int) ≤ (2 ^ k.bits : Int) := by cases k <;> decide
  have hs : k.signed = true → (lim k : Int) ≤ (2 ^ (k.bits - 1) : Int) := by cases k <;> decide
  unfold IntKind.wrap
  have h3 : (Int.ofNat m) % (2 ^ k.bits : Int) = Int.ofNat m := Int.emod_eq_of_lt (Int.natCast_nonneg m) (Int.lt_of_lt_of_le hm hl)
  dsimp only
  rw [h3, if_neg]
  simp only [Bool.and_eq_true, decide_eq_true_eq, not_and]
  intro hk h'
  exact absurd (Int.lt_of_lt_of_le hm (hs hk)) (Int.not_lt.2 h')
theorem wrapV_eq (k : IntKind) (n : Int) : wrapV n k = .int k (k.wrap n) := by
  cases n with
  | ofNat m =>
    show @Bool.rec (fun _ => Value) _ _ (Nat.blt m (lim k)) = _
    cases hb : Nat.blt m (lim k) with
    | false => rfl
    | true => rw [forced_eq, wrap_lim k m (blt_lt hb)]
  | negSucc m => rfl

def keq : IntKind → IntKind → Bool
  | .i8, .i8 | .i16, .i16 | .i32, .i32 | .i64, .i64 | .u8, .u8 | .u16, .u16 | .u32, .u32 | .u64, .u64 => true
  | _, _ => false
theorem keq_eq {a b : IntKind} (h : keq a b = true) : a = b := by cases a <;> cases b <;> first | rfl | cases h

/-- Two numbers, both from 0 on: the common ways. -/
noncomputable def natBin : BinOp → IntKind → Nat → Nat → Option Value
  | .add => fun k a b => some (wrapV (.ofNat (Nat.add a b)) k)
  | .mul => fun k a b => some (wrapV (.ofNat (Nat.mul a b)) k)
  | .sub => fun k a b => @Bool.rec (fun _ => Option Value) none (some (wrapV (.ofNat (Nat.sub a b)) k)) (Nat.ble b a)
  | .eql => fun _ a b => some (.bool (Nat.beq a b))
  | .neq => fun _ a b => some (.bool (@Bool.rec (fun _ => Bool) true false (Nat.beq a b)))
  | .lss => fun _ a b => some (.bool (Nat.blt a b))
  | .leq => fun _ a b => some (.bool (Nat.ble a b))
  | .gtr => fun _ a b => some (.bool (Nat.blt b a))
  | .geq => fun _ a b => some (.bool (Nat.ble b a))
  | _ => fun _ _ _ => none

/-- Two numbers of which the first (the second) alone is below 0: what is told at once. -/
def lowB : BinOp → Option Value
  | .eql => some (.bool false)
  | .neq => some (.bool true)
  | .lss => some (.bool true)
  | .leq => some (.bool true)
  | .gtr => some (.bool false)
  | .geq => some (.bool false)
  | _ => none
def highB : BinOp → Option Value
  | .eql => some (.bool false)
  | .neq => some (.bool true)
  | .lss => some (.bool false)
  | .leq => some (.bool false)
  | .gtr => some (.bool true)
  | .geq => some (.bool true)
  | _ => none
noncomputable def intBin : Int → Int → BinOp → IntKind → Option Value
  | .ofNat a => fun y => match y with
    | .ofNat b => fun op k => natBin op k a b
    | .negSucc _ => fun op _ => highB op
  | .negSucc _ => fun y => match y with
    | .ofNat _ => fun op _ => lowB op
    | .negSucc _ => fun _ _ => none

/-- The lesser of two; against 0, told at once. -/
def minV : Int → Int → Int
  | .negSucc a, .ofNat _ => .negSucc a
  | .ofNat _, .negSucc b => .negSucc b
  | .ofNat _, .ofNat 0 => .ofNat 0
  | a, b => if b < a then b else a
theorem minV_eq (a b : Int) : minV a b = if b < a then b else a := by
  unfold minV
  split
  · rename_i a b
    rw [if_neg]
    have := Int.negSucc_lt_zero a
    have := Int.natCast_nonneg b
    show ¬ (b : Int) < Int.negSucc a
    omega
  · rename_i a b
    rw [if_pos]
    have := Int.negSucc_lt_zero b
    have := Int.natCast_nonneg a
    show Int.negSucc b < (a : Int)
    omega
  · rename_i a
    cases a with
    | zero => rfl
    | succ a => rw [if_pos]; exact Int.ofNat_lt.2 (Nat.succ_pos a)
  · rfl

noncomputable def binF (env : Env) (op : BinOp) (t : TypeId) (xo yo : Operand) : Value → Value → Option Value
  | .int k a => fun y => match y with
    | .int k' b => match keq k k', intBin a b op k with
      | true, some v => some v
      | _, _ => aBin env op t xo yo (.int k a) (.int k' b)
    | y => aBin env op t xo yo (.int k a) y
  | x => fun y => aBin env op t xo yo x y

theorem natBin_eq {op : BinOp} {t : TypeId} {k : IntKind} {a b : Nat} {v : Value} (h : natBin op k a b = some v) : pureOf (Go.binOp op t (.int k (.ofNat a)) (.int k (.ofNat b))) = some v := by
  have lt : ∀ x y : Nat, (decide ((Int.ofNat x) < (Int.ofNat y))) = Nat.blt x y := by
    intro x y
    cases hb : Nat.blt x y with
    | true => exact decide_eq_true (Int.ofNat_lt.2 (blt_lt hb))
    | false => exact decide_eq_false fun h => by
                have := Nat.ble_eq_true_of_le (Int.ofNat_lt.1 h : x < y)
                unfold Nat.blt at hb; rw [hb] at this; cases this
  have le : ∀ x y : Nat, (decide ((Int.ofNat x) ≤ (Int.ofNat y))) = Nat.ble x y := by
    intro x y
    cases hb : Nat.ble x y with
    | true => exact decide_eq_true (Int.ofNat_le.2 (ble_le hb))
    | false => exact decide_eq_false fun h => by
                have := Nat.ble_eq_true_of_le (Int.ofNat_le.1 h : x ≤ y)
                rw [hb] at this; cases this
  have eq : ∀ x y : Nat, ((Int.ofNat x) == (Int.ofNat y)) = Nat.beq x y := by
    intro x y
    cases hb : Nat.beq x y with
    | true => rw [Nat.eq_of_beq_eq_true hb]; simp
    | false =>
      have := beq_ne hb
      rw [beq_eq_false_iff_ne]
      exact fun h => this (Int.ofNat.inj h)
  cases op <;> simp only [natBin, Option.some.injEq, reduceCtorEq] at h
  case add => rw [← h, wrapV_eq]; simp [Go.binOp, Op.intArith, pureOf]; rfl
  case mul => rw [← h, wrapV_eq]; simp [Go.binOp, Op.intArith, pureOf]; rfl
  case sub =>
    cases hb : Nat.ble b a with
    | false => rw [hb] at h; cases h
    | true =>
      rw [hb] at h
      have hle := ble_le hb
      simp only [Option.some.injEq] at h
      rw [← h, wrapV_eq]
      have : Int.ofNat a - Int.ofNat b = Int.ofNat (Nat.sub a b) := (Int.ofNat_sub hle).symm
      rw [← this]; simp [Go.binOp, Op.intArith, pureOf]; rfl
  case eql => rw [← h, ← eq]; simp [Go.binOp, Op.intCmp, pureOf]; rfl
  case neq =>
    rw [← h]
    have : (@Bool.rec (fun _ => Bool) true false (Nat.beq a b)) = (Int.ofNat a != Int.ofNat b) := by
      unfold bne; rw [eq]; cases Nat.beq a b <;> rfl
    rw [this]; simp [Go.binOp, Op.intCmp, pureOf]; rfl
  case lss => rw [← h, ← lt]; simp [Go.binOp, Op.intCmp, pureOf]; rfl
  case leq => rw [← h, ← le]; simp [Go.binOp, Op.intCmp, pureOf]; rfl
  case gtr => rw [← h, ← lt]; simp [Go.binOp, Op.intCmp, pureOf]; rfl
  case geq => rw [← h, ← le]; simp [Go.binOp, Op.intCmp, pureOf]; rfl

theorem lowB_eq {op : BinOp} {t : TypeId} {k : IntKind} {a b : Nat} {v : Value} (h : lowB op = some v) : pureOf (Go.binOp op t (.int k (.negSucc a)) (.int k (.ofNat b))) = some v := by
  have h1 : (Int.negSucc a) < (Int.ofNat b) := Int.lt_of_lt_of_le (Int.negSucc_lt_zero a) (Int.natCast_nonneg b)
  have h2 : (Int.negSucc a == Int.ofNat b) = false := by rw [beq_eq_false_iff_ne]; intro e; cases e
  have h3 : decide (Int.negSucc a < Int.ofNat b) = true := decide_eq_true h1
  have h4 : decide (Int.negSucc a ≤ Int.ofNat b) = true := decide_eq_true (Int.le_of_lt h1)
  have h5 : decide (Int.ofNat b < Int.negSucc a) = false := decide_eq_false (Int.not_lt.2 (Int.le_of_lt h1))
  have h6 : decide (Int.ofNat b ≤ Int.negSucc a) = false := decide_eq_false (Int.not_le.2 h1)
  cases op <;> simp only [lowB, Option.some.injEq, reduceCtorEq] at h
  case eql => rw [← h, ← h2]; simp [Go.binOp, Op.intCmp, pureOf]; rfl
  case neq =>
    rw [← h]
    have : true = (Int.negSucc a != Int.ofNat b) := by unfold bne; rw [h2]; rfl
    rw [this]; simp [Go.binOp, Op.intCmp, pureOf]; rfl
  case lss => rw [← h, ← h3]; simp [Go.binOp, Op.intCmp, pureOf]; rfl
  case leq => rw [← h, ← h4]; simp [Go.binOp, Op.intCmp, pureOf]; rfl
  case gtr => rw [← h, ← h5]; simp [Go.binOp, Op.intCmp, pureOf]; rfl
  case geq => rw [← h, ← h6]; simp [Go.binOp, Op.intCmp, pureOf]; rfl
theorem highB_eq {op : BinOp} {t : TypeId} {k : IntKind} {a b : Nat} {v : Value} (h : highB op = some v) : pureOf (Go.binOp op t (.int k (.ofNat a)) (.int k (.negSucc b))) = some v := by
  have h1 : (Int.negSucc b) < (Int.ofNat a) := Int.lt_of_lt_of_le (Int.negSucc_lt_zero b) (Int.natCast_nonneg a)
  have h2 : (Int.ofNat a == Int.negSucc b) = false := by rw [beq_eq_false_iff_ne]; intro e; cases e
  have h3 : decide (Int.ofNat a < Int.negSucc b) = false := decide_eq_false (Int.not_lt.2 (Int.le_of_lt h1))
  have h4 : decide (Int.ofNat a ≤ Int.negSucc b) = false := decide_eq_false (Int.not_le.2 h1)
  have h5 : decide (Int.negSucc b < Int.ofNat a) = true := decide_eq_true h1
  have h6 : decide (Int.negSucc b ≤ Int.ofNat a) = true := decide_eq_true (Int.le_of_lt h1)
  cases op <;> simp only [highB, Option.some.injEq, reduceCtorEq] at h
  case eql => rw [← h, ← h2]; simp [Go.binOp, Op.intCmp, pureOf]; rfl
  case neq =>
    rw [← h]
    have : true = (Int.ofNat a != Int.negSucc b) := by unfold bne; rw [h2]; rfl
    rw [this]; simp [Go.binOp, Op.intCmp, pureOf]; rfl
  case lss => rw [← h, ← h3]; simp [Go.binOp, Op.intCmp, pureOf]; rfl
  case leq => rw [← h, ← h4]; simp [Go.binOp, Op.intCmp, pureOf]; rfl
  case gtr => rw [← h, ← h5]; simp [Go.binOp, Op.intCmp, pureOf]; rfl
  case geq => rw [← h, ← h6]; simp [Go.binOp, Op.intCmp, pureOf]; rfl

theorem binF_eq {env : Env} {op : BinOp} {t : TypeId} {xo yo : Operand} {a b v : Value} (h : binF env op t xo yo a b = some v) : aBin env op t xo yo a b = some v := by
  cases a with
  | int k x =>
    cases b with
    | int k' y =>
      simp only [binF] at h
      split at h
      · rename_i v' e1 e2
        cases h
        have := keq_eq e1; subst this
        cases x <;> cases y <;> simp only [intBin, reduceCtorEq] at e2
        · exact natBin_eq e2
        · exact highB_eq e2
        · exact lowB_eq e2
      · exact h
    | _ => exact h
  | _ => exact h

/-! ### operations -/
noncomputable def bltn : Builtin → Env → List TypeId → List Value → AHeap → Nat → Eff
  | .len => fun env ts vs H nx => match ts, vs with
    | t :: _, [x] => .ofV (aLen env t x H) H nx
    | _, _ => .no
  | .append => fun env ts vs H nx => match ts, vs with
    | t :: xt :: _, [s, x] => .ofA (aApp env t xt s x H nx)
    | _, _ => .no
  | .min => fun _ _ vs H nx => match vs with
    | [.int k a, .int _ b] => .val (.int k (minV a b)) H nx
    | _ => .no
  | .max => fun _ _ vs H nx => match vs with
    | [.int k a, .int _ b] => .val (.int k (if b > a then b else a)) H nx
    | _ => .no
  | .recover => fun _ _ vs _ _ => match vs with
    | [] => .recover
    | _ => .no
  | .clear => fun env ts vs H nx => match ts, vs with
    | t :: _, [x] => .ofH (aClear env t x H) nx
    | _, _ => .no
  | _ => fun _ _ _ _ _ => .no

noncomputable def deferOf (c : Call) (ρ : Rho) : Option (Fn × List Value × List Value) :=
  match c.callee with
  | .value f => match ρ f, opvs c.args.toList ρ with
    | some (.func fn fi ca), some vs => some (fn, fi.toList ++ vs, ca.toList)
    | _, _ => none
  | _ => none

noncomputable def opF : Op → Env → Rho → AHeap → Nat → Eff
  | .move x => fun _ ρ H nx => .ofV (ρ x) H nx
  | .assign x => fun _ ρ H nx => .ofV (ρ x) H nx
  | .pick c a b => fun _ ρ H nx => match ρ c, ρ a, ρ b with
    | some (.bool t), some va, some vb => .val (bif t then va else vb) H nx
    | _, _, _ => .no
  | .alloc t => fun env _ H nx => .ofA (aAlloc env t H nx)
  | .box t x => fun _ ρ H nx => with1 (ρ x) fun v => .ofA (aBox t v H nx)
  | .build t ps => fun env ρ H nx => match opvp ps.toList ρ with | some vs => .ofV (aBuild env t vs) H nx | none => .no
  | .buildSlice t len ps => fun env ρ H nx => match opvp ps.toList ρ with | some vs => .ofA (aBuildSl env t len vs H nx) | none => .no
  | .load t a => fun env ρ H nx => with1 (ρ a) fun v => .ofV (aLoad env t v H) H nx
  | .store t a x => fun env ρ H nx => with1 (ρ a) fun v => with1 (ρ x) fun y => .ofH (aStore env t v y H) nx
  | .nilCheck x => fun _ ρ H nx => match ρ x with
    | some (.pointer (some a)) => .val (.pointer (some a)) H nx
    | some (.func (.func f) fi ca) => .val (.func (.func f) fi ca) H nx
    | _ => .no
  | .binOp op t x y _ => fun env ρ H nx => with1 (ρ x) fun a => with1 (ρ y) fun b => .ofV (binF env op t x y a b) H nx
  | .unOp op _ x => fun _ ρ H nx => with1 (ρ x) fun a => .ofV (aUn op a) H nx
  | .convert s d x => fun env ρ H nx => with1 (ρ x) fun a => .ofA (aConv env s d a H nx)
  | .makeInterface t x => fun env ρ H nx => with1 (ρ x) fun a => .ofV (aIface env t a) H nx
  | .makeFunc fn fi ca => fun _ ρ H nx => match opvs fi.toList ρ, opvs ca.toList ρ with
    | some f, some c => .val (.func fn ⟨f⟩ ⟨c⟩) H nx
    | _, _ => .no
  | .makeMap _ r => fun _ _ H nx => match r with
    | none => .ofA (aMakeMap nx H)
    | some _ => .no
  | .makeSlice t l c => fun env ρ H nx => with1 (ρ l) fun a => with1 (ρ c) fun b => .ofA (aMake env t a b H nx)
  | .slice t x lo hi mx => fun env ρ H nx => match mx with
    | none => match ρ x, opvo lo ρ, opvo hi ρ with
      | some a, some l, some h => .ofV (aSlice env t a l h H) H nx
      | _, _, _ => .no
    | some _ => .no
  | .fieldAddr s x f => fun env ρ H nx => with1 (ρ x) fun a => .ofV (aFieldAddr env s a f) H nx
  | .field s x f => fun env ρ H nx => with1 (ρ x) fun a => .ofV (aField env s a f) H nx
  | .indexAddr t x i => fun env ρ H nx => with1 (ρ x) fun a => with1 (ρ i) fun b => .ofV (aIndexAddr env t a b) H nx
  | .index t x i => fun env ρ H nx => with1 (ρ x) fun a => with1 (ρ i) fun b => .ofV (aIndex env t a b) H nx
  | .lookup t x i co => fun env ρ H nx => with1 (ρ x) fun a => with1 (ρ i) fun b => .ofV (aLookup env t a b co H) H nx
  | .mapUpdate t m k x => fun env ρ H nx => with1 (ρ m) fun a => with1 (ρ k) fun b => with1 (ρ x) fun c => .ofH (aMapSet env t a b c H) nx
  | .insert t m k x => fun env ρ H nx => with1 (ρ m) fun a => with1 (ρ k) fun b => with1 (ρ x) fun c => .ofH (aMapSet env t a b c H) nx
  | .typeAssert x _ t co => fun env ρ H nx => with1 (ρ x) fun a => .ofV (aAssert env a t co) H nx
  | .extract t i => fun _ ρ H nx => match ρ t with
    | some (.tuple vs) => .ofV (nthK vs.toList i) H nx
    | _ => .no
  | .call c => fun env ρ H nx => match c.callee with
    | .builtin b => match opvs c.args.toList ρ with
      | some vs => bltn b env c.argTypes.toList vs H nx
      | none => .no
    | .value _ => match deferOf c ρ with
      | some (.func f, vs, ca) => .call f (vs ++ ca)
      | _ => .no
    | .invoke _ _ => .no
  | .defer c => fun _ ρ _ _ => match deferOf c ρ with
    | some (fn, vs, ca) => .defer { target := .fn fn ⟨ca⟩, args := ⟨vs⟩ }
    | none => .no
  | .panic x => fun _ ρ _ _ => match ρ x with
    | some (.iface t v) => .panic (.iface t v)
    | _ => .no
  | _ => fun _ _ _ _ => .no

/-- Where the common way yields nothing: a slice cut at an end that is not known. -/
def isConst : Operand → Bool
  | .const _ => true
  | _ => false
noncomputable def fallF (o : Oper) : Env → Rho → AHeap → Nat → Eff := match o.op with
  | .slice t x lo hi mx => fun env ρ H nx => match mx with
    | none => match ρ x, opvo lo ρ, opvo hi ρ with
      | some a, some l, some h => .ofA (aSliceG env t a l h H nx)
      | _, _, _ => .no
    | some m => match ρ x, opvo lo ρ, opvo hi ρ, ρ m with
      | some a, some l, some (some h), some y => .ofA (aSliceH env t a l h y H nx)
      | _, _, _, _ => .no
  | .defer c => fun _ ρ _ _ => match c.callee with
    | .builtin b => match opvs c.args.toList ρ with
      | some vs => .defer { target := .builtin b c.argTypes o.type (c.args.map isConst), args := ⟨vs⟩ }
      | none => .no
    | _ => .no
  | _ => fun _ _ _ _ => .no
def orF : Eff → Eff → Eff
  | .no => fun y => y
  | x => fun _ => x

inductive AExit where
  | normal
  | exit (id : Nat)
  | ret
  | panic (chain : List PanicEntry)

inductive Job where
  | code (c : Code)
  | ops (ops : Array Oper) (k : Nat) (rest : List Oper)
  | call (f : FuncId) (args : List Value)
  | unwind (fn : Func) (mode : Option (List PanicEntry))

inductive Res where
  | out (x : AExit) (S : St)
  | ret (v : Value) (H : AHeap) (nx : Nat) (rc : RC)
  | pan (chain : List PanicEntry) (H : AHeap) (nx : Nat) (rc : RC)

/-- A contract: what a call comes to. -/
abbrev Con := FuncId → List Value → AHeap → Nat → Option (Value × AHeap × Nat)
abbrev Rec := Job → St → Option Res

noncomputable def wantedA : Option (Nat × Bool) → ATmp → Nat → Array Oper → Bool
  | none => fun _ _ _ => true
  | some (j, want) => fun tm nt ops => match ops[j]? with
    | some oj => match oj.dst with
      | some d => @Bool.rec (fun _ => Bool) false (match tget tm d with | .bool b => (b == want) | _ => false) (Nat.blt d nt)
      | none => false
    | none => false

/-- What an operation yielded is laid down; then on. -/
noncomputable def putK : Option Tmp → ATmp → Nat → Value → (ATmp → Option Res) → Option Res
  | none => fun tm _ _ κ => κ tm
  | some d => fun tm nt v κ => @Bool.rec (fun _ => Option Res) none (κ (tput tm d v)) (Nat.blt d nt)

noncomputable def argTm : List Value → Nat → ATmp → ATmp
  | [] => fun _ tm => tm
  | v :: vs => fun i tm => argTm vs (i + 1) (tput tm i v)

noncomputable def resVals : List ResultVar → Env → ATmp → Nat → AHeap → Option (List Value)
  | [] => fun _ _ _ _ => some []
  | .tmp t :: rs => fun env tm nt H => bif Nat.blt t nt then (match resVals rs env tm nt H with | some vs => some (tget tm t :: vs) | none => none) else none
  | .cell a t :: rs => fun env tm nt H => bif Nat.blt a nt then (match aLoad env t (tget tm a) H, resVals rs env tm nt H with | some v, some vs => some (v :: vs) | _, _ => none) else none

def resOf : List Value → Value
  | [v] => v
  | vs => .tuple ⟨vs⟩

/-- The panic that a deferred call may recover. -/
def rcOf : Option (List PanicEntry) → RC
  | some ({ v, recovered := false, goexit := false } :: _) => .avail v
  | _ => .no

/-- The chain behind a deferred call that panicked itself. -/
def chainMarked : Option (List PanicEntry) → RC → List PanicEntry
  | some (e :: older), .done => { e with recovered := true } :: older
  | some l, _ => l
  | none, _ => []
/-- The mode behind a deferred call that returned. -/
def chainBehind : Option (List PanicEntry) → RC → Option (Option (List PanicEntry))
  | none, _ => some none
  | some (_ :: _), .done => some none
  | some ({ v, recovered := false, goexit } :: older), _ => some (some ({ v, recovered := false, goexit } :: older))
  | _, _ => none
def behindK : Option (Option (List PanicEntry)) → (Option (List PanicEntry) → Option Res) → Option Res
  | some m => fun κ => κ m
  | none => fun _ => none

/-- A piece of code left normally; then on. -/
def seqK : Option Res → (St → Option Res) → Option Res
  | some (.out .normal S) => fun κ => κ S
  | some (.out (.exit j) S) => fun _ => some (.out (.exit j) S)
  | some (.out .ret S) => fun _ => some (.out .ret S)
  | some (.out (.panic c) S) => fun _ => some (.out (.panic c) S)
  | some (.ret ..) => fun _ => none
  | some (.pan ..) => fun _ => none
  | none => fun _ => none
def blockK : Option Res → Nat → Option Res
  | some (.out (.exit j) S) => fun id => bif Nat.beq j id then some (.out .normal S) else some (.out (.exit j) S)
  | some (.out .normal S) => fun _ => some (.out .normal S)
  | some (.out .ret S) => fun _ => some (.out .ret S)
  | some (.out (.panic c) S) => fun _ => some (.out (.panic c) S)
  | some (.ret ..) => fun _ => none
  | some (.pan ..) => fun _ => none
  | none => fun _ => none
end Go.Proofs.Evz
