/-
  ENGINE 19. Calls, the way out, and all of it together.
-/
import Derived.Test.YtnbeobglablnkaaGreatDoorEb
import Derived.KernelRfl
import Derived.Conc.Beside
import Derived.Conc.CrowdSel
import Derived.Conc.Own2
import Derived.Conc.EventLaws
import Derived.Orders
namespace Go.Proofs.Evz
open Go Go.Conc

section
variable {P : Program} {env : Env} {main : Bool} {W : Foot → Goroutine → World → Prop} {K : Con} {n : Nat}

/-- What never changes in an activation. -/
def baseK (f : FuncId) (kind : CallKind) : Frame := { (default : Frame) with fn := f, kind := kind }
theorem enter_atK {f : FuncId} {fn : Func} {c : Code} {kind : CallKind} (args : Array Value) (hf : P.funcs[f]? = some fn) (hb : fn.body = some c) :
    Frame.enter P f args kind = (baseK f kind).at { tmps := args ++ Array.replicate (fn.ntmps - args.size) undef, defers := [] } [.code c] := by
  simp [Frame.enter, Frame.at, hf, hb, baseK]

theorem call_step (C : Closed P main W) (ok : EnvOk P env) (IH : SoundAt P env W K n) (f : FuncId) (args : List Value) (S : St) (res : Res) (he : ev env K (n + 1) (.call f args) S = some res)
    (kind : CallKind) (σ : Sub) (F : Foot) (w : World) (csf : RC → List Frame) (hk : kind = .normal ∨ kind = .deferred) (hh : HR P env.G σ S.H S.nx F w) (hs : ∀ v ∈ args, Sc S.nx v) (hrc : RcOk kind σ S.nx csf S.rc)
    (hF : FinOk P env W kind csf σ S.H S.nx F w res) : W F (G (Frame.enter P f (args.map (ren σ)).toArray kind) (csf S.rc)) w := by
  obtain ⟨m, fn, body, hm, hfn, hbody, hle, he⟩ := call_inv he
  cases hm
  obtain ⟨hf, hn⟩ := ok.fn f fn hfn
  rw [enter_atK _ hf hbody]
  have hsize : (args.map (ren σ)).toArray.size = args.length := by simp
  let S1 : St := ⟨argTm args 0 .nil, args.length + (fn.ntmps - args.length), S.H, S.nx, [], S.rc⟩
  have hR : Rel P env (baseK f kind) σ S1 ⟨(args.map (ren σ)).toArray ++ Array.replicate (fn.ntmps - (args.map (ren σ)).toArray.size) undef, []⟩ F w csf := by
    refine ⟨⟨by simp [S1], hle, rfl, by simp [S1], ?_, hh, hrc⟩, fun t ht => ?_⟩
    · rcases hk with rfl | rfl <;> simp [baseK]
    · have ht' : t < args.length + (fn.ntmps - args.length) := ht
      show _ ∧ Sc S.nx (tget (argTm args 0 .nil) t)
      have e : tget S1.tm t = if 0 ≤ t ∧ t < 0 + args.length then args.getD (t - 0) undef else tget .nil t := argTm_get args 0 .nil t (by omega) (by omega)
      by_cases hlt : t < args.length
      · rw [if_pos (by omega)] at e
        have e2 : tget S1.tm t = args[t] := by rw [e]; simp [hlt]
        refine ⟨?_, ?_⟩
        · rw [e2]
          show ((args.map (ren σ)).toArray ++ _)[t]? = _
          rw [Array.getElem?_append_left (by simpa using hlt)]
          simp [hlt]
        · show Sc S.nx (tget S1.tm t)
          rw [e2]; exact hs _ (List.getElem_mem _)
      · rw [if_neg (by omega)] at e
        have e2 : tget S1.tm t = undef := e
        refine ⟨?_, ?_⟩
        · rw [e2, ren_undef]
          show ((args.map (ren σ)).toArray ++ _)[t]? = _
          rw [Array.getElem?_append_right (by rw [hsize]; omega), hsize, Array.getElem?_replicate, if_pos (by omega)]
        · show Sc S.nx (tget S1.tm t)
          rw [e2]; exact sc_undef _
  have hk2 : (baseK f kind).kind = .normal ∨ (baseK f kind).kind = .deferred := hk
  cases h1 : ev env K n (.code body) S1 with
  | none => rw [h1] at he; cases he
  | some r1 =>
    rw [h1] at he
    cases r1 with
    | ret => cases he
    | pan => cases he
    | out x S2 =>
      cases x with
      | normal =>
        simp only [bodyK] at he
        refine IH.code _ _ _ _ h1 _ _ [] σ F w csf hR fun σ' a' F' w' hr R' => ?_
        exact C.quiet (fun w => stepG_end) fun w₁ r => IH.unwind fn none _ _ he _ a' [] σ' F' w₁ csf (R'.rely r).toPRel (.inr R'.tmp) hf hk2 trivial (hF.from (hr.trans (Reach.rely r)))
      | exit j => cases he
      | ret =>
        simp only [bodyK] at he
        exact IH.code _ _ _ _ h1 _ _ [] σ F w csf hR fun σ' a' F' w' hr R' todo => IH.unwind fn none _ _ he _ a' todo σ' F' w' csf R'.toPRel (.inr R'.tmp) hf hk2 trivial (hF.from hr)
      | panic c =>
        simp only [bodyK] at he
        exact IH.code _ _ _ _ h1 _ _ [] σ F w csf hR fun σ' a' F' w' hr R' ht hsc todo =>
          IH.unwind fn (some c) _ _ he _ a' todo σ' F' w' csf R' (ht.elim (fun h => .inl ⟨h, rfl⟩) .inr) hf hk2 hsc (hF.from hr)

/-- The chain of a frame whose deferred call may have recovered. -/
def markedM : Option (List PanicEntry) → RC → Option (List PanicEntry)
  | some (e :: older), .done => some ({ e with recovered := true } :: older)
  | m, _ => m

theorem markedM_rcOf (m : Option (List PanicEntry)) : markedM m (rcOf m) = m := by
  rcases m with _ | ⟨_ | ⟨⟨v, r, g⟩, t⟩⟩
  · rfl
  · rfl
  · cases r <;> cases g <;> rfl
theorem scM_marked {nx : Nat} {m : Option (List PanicEntry)} (h : ScM nx m) (rc : RC) : ScM nx (markedM m rc) := by
  rcases m with _ | ⟨_ | ⟨e, t⟩⟩
  · exact h
  · cases rc <;> exact h
  · cases rc with
    | no => exact h
    | avail v => exact h
    | done =>
      intro p hp
      cases hp with
      | head => exact h e (by simp)
      | tail _ hp => exact h p (List.mem_cons_of_mem _ hp)
theorem chainMarked_eq (m : Option (List PanicEntry)) (rc : RC) : chainMarked m rc = (markedM m rc).getD [] := by
  rcases m with _ | ⟨_ | ⟨e, t⟩⟩ <;> cases rc <;> rfl

theorem drop_none {σ : Sub} {nx : Nat} {older : List PanicEntry} (h : ∀ p ∈ older, Sc nx p.v ∧ p.goexit = false) : (older.map (renP σ)).dropWhile (!·.goexit) = [] := by
  induction older with
  | nil => rfl
  | cons p t ih =>
    have h1 : (renP σ p).goexit = false := (h p (by simp)).2
    simp only [List.map_cons, List.dropWhile_cons, h1, Bool.not_false, if_true]
    exact ih fun q hq => h q (List.mem_cons_of_mem _ hq)

theorem behind_eq {σ : Sub} {nx : Nat} {m m' : Option (List PanicEntry)} {rc : RC} (h : ScM nx m) (hm : chainBehind m rc = some m') (c : Frame) :
    behindRet { c with mode := modeOf σ (markedM m rc) } = { c with mode := modeOf σ m' } := by
  rcases m with _ | ⟨_ | ⟨⟨v, r, g⟩, t⟩⟩
  · cases rc <;> (simp only [chainBehind, Option.some.injEq] at hm; subst hm; rfl)
  · cases rc <;> simp [chainBehind] at hm
  · cases rc with
    | done =>
      simp only [chainBehind, Option.some.injEq] at hm
      subst hm
      have := drop_none (σ := σ) (nx := nx) (older := t) fun p hp => h p (List.mem_cons_of_mem _ hp)
      simp only [markedM, modeOf, List.map_cons, renP, behindRet]
      rw [this]
    | no =>
      cases r with
      | true => simp [chainBehind] at hm
      | false =>
        simp only [chainBehind, Option.some.injEq] at hm
        subst hm
        simp [markedM, modeOf, renP, behindRet]
    | avail v' =>
      cases r with
      | true => simp [chainBehind] at hm
      | false =>
        simp only [chainBehind, Option.some.injEq] at hm
        subst hm
        simp [markedM, modeOf, renP, behindRet]

theorem unwind_step (C : Closed P main W) (ok : EnvOk P env) (IH : SoundAt P env W K n) (fn : Func) (mode : Option (List PanicEntry)) (S : St) (res : Res) (he : ev env K (n + 1) (.unwind fn mode) S = some res)
    (b : Frame) (a : Act) (todo : List Item) (σ : Sub) (F : Foot) (w : World) (csf : RC → List Frame) (hR : PRel P env b σ S a F w csf) (ht : (S.df = [] ∧ mode.isSome = true) ∨ TmR σ S a) (hf : P.funcs[b.fn]? = some fn)
    (hk : b.kind = .normal ∨ b.kind = .deferred) (hm : ScM S.nx mode) (hF : FinOk P env W b.kind csf σ S.H S.nx F w res) : W F (G { b.at a todo with mode := modeOf σ mode } (csf S.rc)) w := by
  obtain ⟨tm, nt, H, nx, df, rc⟩ := S
  rw [ev_succ] at he
  simp only [stepF, unwF] at he
  cases df with
  | nil =>
    have hd : a.defers = [] := hR.df
    cases mode with
    | none =>
      simp only at he
      have ht' : TmR σ ⟨tm, nt, H, nx, [], rc⟩ a := ht.elim (fun h => by cases h.2) id
      split at he
      · rename_i vs hv
        cases he
        refine step_return C hd hf fun w₁ r => ?_
        let g : ResultVar → Sem Value := fun
          | .tmp t => pure (a.tmps.getD t undef)
          | .cell c t => do loadVar t (← asAddr (a.tmps.getD c undef))
        obtain ⟨h1, h2⟩ := sat_resVals ok (hR.hr.rely r) ht' (n := w₁.heap.size) g (fun t => rfl) (fun c t => rfl) fn.results.toList vs hv
        show Sat P F _ (fn.results.mapM g >>= fun vs => pure (if h : vs.size = 1 then vs[0] else .tuple vs)) w₁ _ _
        rw [Array.mapM_eq_mapM_toList]
        refine sat_bind' (sat_bind' (h2 _ _ (sat_pure ?_)))
        refine sat_pure ?_
        rw [grow_self]
        have hsv : Sc nx (resOf vs) := by
          rcases vs with _ | ⟨v, _ | ⟨v', t⟩⟩
          · exact sc_tuple (by simp)
          · exact h1 v (by simp)
          · exact sc_tuple fun x hx => h1 x (by simpa using hx)
        have hfin : RetK b.kind (fun g => W F g w₁) (ren σ (resOf vs)) (csf rc) := hF σ F w₁ (Reach.rely r) (hR.hr.rely r) hsv
        · have e : (if h : (vs.map (ren σ)).toArray.size = 1 then (vs.map (ren σ)).toArray[0] else Value.tuple (vs.map (ren σ)).toArray) = ren σ (resOf vs) := by
            rcases vs with _ | ⟨v, _ | ⟨v', t⟩⟩
            · simp [resOf]
            · simp [resOf]
            · simp [resOf]
          rw [e]; exact hfin
      · cases he
    | some chain =>
      simp only [Option.some.injEq] at he
      subst he
      have hfin := hF σ F w Reach.refl hR.hr hm
      cases hcs : csf rc with
      | nil =>
        have : PanK (fun g => W F g w) (chain.map (renP σ)) (csf rc) := hfin
        rw [hcs] at this; exact this.elim
      | cons c cs =>
        show W F (G { b.at a todo with mode := .panicking (chain.map (renP σ)) } (c :: cs)) w
        refine C.quiet (fun w => stepG_pan hd hf) fun w₁ r => ?_
        have : PanK (fun g => W F g w₁) (chain.map (renP σ)) (csf rc) := hF σ F w₁ (Reach.rely r) (hR.hr.rely r) hm
        rw [hcs] at this; exact this
  | cons d ds =>
    have ht' : TmR σ ⟨tm, nt, H, nx, d :: ds, rc⟩ a := ht.elim (fun h => by cases h.1) id
    simp only at he
    split at he
    · rename_i f ca htg
      cases hcal : ev env K n (.call f (d.args.toList ++ ca.toList)) ⟨.nil, 0, H, nx, [], rcOf mode⟩ with
      | none => rw [hcal] at he; cases he
      | some r1 =>
        rw [hcal] at he
        obtain ⟨m, fn', body, hn', hfn, hbody, _⟩ := call_inv hcal
        obtain ⟨hf', hnm⟩ := ok.fn f fn' hfn
        have h2 := (hR.dfs d (by simp)).1 _ _ htg
        have h3 := (hR.dfs d (by simp)).2
        have hdf : a.defers = renD σ d :: ds.map (renD σ) := hR.df
        have ea : a = ⟨a.tmps, renD σ d :: ds.map (renD σ)⟩ := by rw [← hdf]
        have hmode : modeOf σ mode ≠ .run := by cases mode <;> simp [modeOf]
        rw [ea]
        refine C.quiet (fun w => stepG_unw_enter (f := f) (ca := ca.map (ren σ)) hmode (by simp [renD, renT, htg]) hf' hnm hbody) fun w₁ r => ?_
        have eargs : (renD σ d).args ++ ca.map (ren σ) = ((d.args.toList ++ ca.toList).map (ren σ)).toArray := by
          apply Array.toList_inj.1; simp [renD]
        rw [eargs]
        let csf' : RC → List Frame := fun r' => { b.at ⟨a.tmps, ds.map (renD σ)⟩ todo with mode := modeOf σ (markedM mode r') } :: csf rc
        have hcs0 : csf' (rcOf mode) = { b.at ⟨a.tmps, ds.map (renD σ)⟩ todo with mode := modeOf σ mode } :: csf rc := by simp only [csf', markedM_rcOf]
        rw [← hcs0]
        have R1 := hR.rely r
        have hrc : RcOk .deferred σ nx csf' (rcOf mode) := by
          rcases mode with _ | ⟨_ | ⟨⟨v, rv, g⟩, t⟩⟩
          · intro fr hfr; simp [tryRecover, hfr, csf', markedM, modeOf]
          · intro fr hfr; simp [tryRecover, hfr, csf', markedM, modeOf]
          · cases rv with
            | true => intro fr hfr; simp [tryRecover, hfr, csf', markedM, modeOf, renP]
            | false =>
              cases g with
              | true => intro fr hfr; simp [tryRecover, hfr, csf', markedM, modeOf, renP]
              | false =>
                refine ⟨(hm { v := v, recovered := false, goexit := false } (List.mem_cons_self ..)).1, fun fr hfr => ?_, fun fr hfr => ?_⟩
                · simp [tryRecover, hfr, csf', markedM, modeOf, renP]
                · simp [tryRecover, hfr, csf', markedM, modeOf, renP]
        refine IH.call f _ _ _ hcal .deferred σ F w₁ csf' (.inr rfl) R1.hr (fun v hv => (List.mem_append.1 hv).elim (fun h => h3 v (by simpa using h)) (fun h => h2 v (by simpa using h))) hrc ?_
        cases r1 with
        | out => cases he
        | ret v H' nx' rc' =>
          simp only [deferK] at he
          cases hcb : chainBehind mode rc' with
          | none => rw [hcb] at he; cases he
          | some m' =>
            rw [hcb] at he
            simp only [behindK] at he
            intro σ' F' w' hr hhr hsc
            show W F' (G (behindRet { b.at ⟨a.tmps, ds.map (renD σ)⟩ todo with mode := modeOf σ (markedM mode rc') }) (csf rc)) w'
            have hm' : ScM nx' m' := by
              rcases mode with _ | ⟨_ | ⟨⟨v, rv, g⟩, t⟩⟩
              · cases rc' <;> (simp only [chainBehind, Option.some.injEq] at hcb; subst hcb; trivial)
              · cases rc' <;> simp [chainBehind] at hcb
              · cases rc' <;> cases rv <;> simp [chainBehind] at hcb <;> subst hcb <;> first | trivial | exact hm.mono hr.le
            rw [behind_eq (nx := nx) hm hcb]
            have hm2 : ScM nx m' := by
              rcases mode with _ | ⟨_ | ⟨⟨v, rv, g⟩, t⟩⟩
              · cases rc' <;> (simp only [chainBehind, Option.some.injEq] at hcb; subst hcb; trivial)
              · cases rc' <;> simp [chainBehind] at hcb
              · cases rc' <;> cases rv <;> simp [chainBehind] at hcb <;> subst hcb <;> first | trivial | exact hm
            rw [modeOf_agree hm2 hr.agree]
            have R2 := R1.ext hr.agree hr.le hhr
            have R3 : PRel P env b σ' ⟨tm, nt, H', nx', ds, rc⟩ ⟨a.tmps, ds.map (renD σ)⟩ F' w' csf :=
              ⟨R2.size, R2.nt, List.map_congr_left fun x hx => renD_agree (hR.dfs x (by simp [hx])) hr.agree, fun x hx => (hR.dfs x (by simp [hx])).mono hr.le, R2.kind, R2.hr, R2.rc⟩
            exact IH.unwind fn m' _ _ he b _ todo σ' F' w' csf R3 (.inr (TmR.ext (H' := H') ht' hr.agree hr.le)) hf hk hm' (hF.from ((Reach.rely r).trans hr))
        | pan chain H' nx' rc' =>
          simp only [deferK] at he
          intro σ' F' w' hr hhr hsc
          show W F' (G (Frame.raise { b.at ⟨a.tmps, ds.map (renD σ)⟩ todo with mode := modeOf σ (markedM mode rc') } (chain.map (renP σ'))) (csf rc)) w'
          have hmk := scM_marked hm rc'
          have e : Frame.raise { b.at ⟨a.tmps, ds.map (renD σ)⟩ todo with mode := modeOf σ (markedM mode rc') } (chain.map (renP σ')) =
              { b.at ⟨a.tmps, ds.map (renD σ)⟩ todo with mode := modeOf σ' (some (chain ++ chainMarked mode rc')) } := by
            rw [chainMarked_eq, modeOf_agree hmk hr.agree]
            cases markedM mode rc' <;> simp [Frame.raise, modeOf]
          rw [e]
          have R2 := R1.ext hr.agree hr.le hhr
          have R3 : PRel P env b σ' ⟨tm, nt, H', nx', ds, rc⟩ ⟨a.tmps, ds.map (renD σ)⟩ F' w' csf :=
            ⟨R2.size, R2.nt, List.map_congr_left fun x hx => renD_agree (hR.dfs x (by simp [hx])) hr.agree, fun x hx => (hR.dfs x (by simp [hx])).mono hr.le, R2.kind, R2.hr, R2.rc⟩
          refine IH.unwind fn _ _ _ he b _ todo σ' F' w' csf R3 (.inr (TmR.ext (H' := H') ht' hr.agree hr.le)) hf hk ?_ (hF.from ((Reach.rely r).trans hr))
          intro p hp
          rcases List.mem_append.1 hp with hp | hp
          · exact hsc p hp
          · rw [chainMarked_eq] at hp
            have hmk' := hmk.mono hr.le
            cases hmm : markedM mode rc' with
            | none => rw [hmm] at hp; cases hp
            | some c => rw [hmm] at hp hmk'; exact hmk' p hp
    · cases he

theorem sound (C : Closed P main W) (ok : EnvOk P env) (hK : ConOk P env W K) : ∀ n, SoundAt P env W K n
  | 0 => ⟨fun _ _ _ _ h => (by cases h), fun _ _ _ _ h => (by cases h), fun _ _ _ _ _ _ h => (by cases h), fun _ _ _ _ h => (by cases h), fun _ _ _ _ h => (by cases h)⟩
  | n + 1 =>
    have IH := sound C ok hK n
    ⟨code_step C ok hK IH, loop_step C IH, ops_step C ok hK IH, call_step C ok IH, unwind_step C ok IH⟩
end
end Go.Proofs.Evz

/-
  ENGINE: tables of types and functions, and that they are the program's.
-/
namespace Go.Proofs.Evz
open Go Go.Conc Go.Proofs
def mkTI (a u : TypeInfo) : TI := { und := u.desc, size := a.size, bytes := a.bytes, zero := a.zero }
/-- Every entry, with its number. -/
def Trie.All {α : Type} (p : Nat → α → Prop) : Trie α → Nat → Nat → Prop
  | .nil, _, _ => True
  | .tip a, b, _ => p b a
  | .fork l r, b, s => Trie.All p l b (2 * s) ∧ Trie.All p r (b + s) (2 * s)
theorem Trie.All_get' {α : Type} {p : Nat → α → Prop} : ∀ {t : Trie α} {b s k : Nat} {a : α}, Trie.All p t b s → t.get k = some a → p (b + s * k) a
  | .nil, b, s, k, a, _, h => by cases h
  | .tip x, b, s, k, a, hp, h => by
    rw [Trie.get_tip] at h
    split at h
    · rename_i e; subst e; cases h; show p (b + s * 0) _; rw [Nat.mul_zero, Nat.add_zero]; exact hp
    · cases h
  | .fork l r, b, s, k, a, hp, h => by
    rw [Trie.get_fork] at h
    split at h
    · rename_i e
      have := Trie.All_get' hp.1 h
      rw [Nat.mul_assoc, Nat.mul_left_comm] at this
      have e2 : b + 2 * (s * (k / 2)) = b + s * k := by
        have e3 : k = 2 * (k / 2) := by omega
        have e4 : s * k = s * (2 * (k / 2)) := congrArg (s * ·) e3
        rw [e4, Nat.mul_left_comm]
      rw [Nat.mul_left_comm] at this
      rwa [e2] at this
    · rename_i e
      have := Trie.All_get' hp.2 h
      rw [Nat.mul_assoc] at this
      have e2 : b + s + 2 * (s * (k / 2)) = b + s * k := by
        have e3 : k = 2 * (k / 2) + 1 := by omega
        have e4 : s * k = s * (2 * (k / 2) + 1) := congrArg (s * ·) e3
        rw [e4, Nat.mul_add, Nat.mul_left_comm s 2]; omega
      rwa [e2] at this
theorem Trie.All_get {α : Type} {p : Nat → α → Prop} {t : Trie α} {k : Nat} {a : α} (h : Trie.All p t 0 1) (hg : t.get k = some a) : p k a := by
  have := Trie.All_get' h hg
  simpa using this
def TyOk (P : Program) (t : Nat) (i : TI) : Prop := P.underlying t = some i.und ∧ ∃ j, P.info? t = some j ∧ j.size = i.size ∧ j.bytes = i.bytes ∧ j.zero = i.zero ∧ (∀ z, i.zero = some z → Closedv z)
def zeroB : Option Value → Bool
  | some z => closedB 6 z
  | none => true
theorem info_of {P : Program} {t : Nat} {a : TypeInfo} (h : P.types[t]? = some a) : P.info? t = some a := by
  have hlt : t < P.types.size := by
    rcases Nat.lt_or_ge t P.types.size with h' | h'
    · exact h'
    · rw [Array.getElem?_eq_none h'] at h; cases h
  unfold Tables.info?
  rw [if_pos hlt]; exact h
theorem tyOk {P : Program} {t : Nat} {a u : TypeInfo} (h : P.types[t]? = some a) (hu : P.underlying t = some u.desc) (hz : zeroB a.zero = true) : TyOk P t (mkTI a u) :=
  ⟨hu, a, info_of h, rfl, rfl, rfl, fun z e => by
    have e' : a.zero = some z := e
    rw [e'] at hz; exact closedB_ok 6 z hz⟩
def FnOk (P : Program) (f : Nat) (x : Func) : Prop := P.funcs[f]? = some x ∧ (x.name == "runtime.NumGoroutine") = false
theorem fnOk {P : Program} {f : Nat} {x : Func} (h : P.funcs[f]? = some x) (hn : (x.name == "runtime.NumGoroutine") = false) : FnOk P f x := ⟨h, hn⟩
end Go.Proofs.Evz

/-
  ENGINE 31. The machine: goroutine 0 beside goroutines that are only leaving.
-/
namespace Go.Proofs.Evz
open Go Go.Conc
open Go.ConcN (sumTo sumTo_upd)

/-- What is held of the trace while goroutine 0 is alone but for leavers. -/
structure TOne (B : Nat) (t : Trace) : Prop where
  wl : Wordless t
  clean : ∀ said, ¬ Race said t
  known : ∀ i a, touchAt t i = some a → Knows t 0 i
  seen : ∀ op ∈ t, op.act.low B

def Lvs (P : Program) (gs : Array Goroutine) (q : Nat → Nat) : Prop := ∀ i g, 0 < i → gs[i]? = some g → QuitsIn P (q i) g

def EndsIn (P : Program) (Post : Value → World → Prop) (m : Machine) (t : Trace) : Prop :=
  ∃ n last o w' t', runNT P (n + 1) m t = (.ended o w', t') ∧ runN P n m = .next last ∧ step P last = .ended o w' ∧ Good P Post last o w' t'

theorem ends_step {P : Program} {Post : Value → World → Prop} {m m' : Machine} {t ops : Trace} (h : stepT P m = (.next m', ops)) (h' : EndsIn P Post m' (t ++ ops)) : EndsIn P Post m t := by
  obtain ⟨n, last, o, w, t', h1, h2, h3, h4⟩ := h'
  exact ⟨n + 1, last, o, w, t', by rw [runNT_succ_next h]; exact h1, by rw [runN_succ_next h]; exact h2, h3, h4⟩

/-- What is asked of goroutine 0: from here the run ends well, whoever moves when. -/
def W1 (P : Program) (Post : Value → World → Prop) (_ : Foot) (g : Goroutine) (w : World) : Prop :=
  ∀ (gs : Array Goroutine) (w₁ : World) (sl : Option (Nat × Nat)) (t : Trace) (q : Nat → Nat), gs[0]? = some g → AtRel w w₁ → Lvs P gs q → TOne w₁.heap.size t → EndsIn P Post (crowd gs w₁ sl) t

theorem atRel_rely {w w₁ : World} (h : AtRel w w₁) (F : Foot) : Rely F w w₁ := by
  obtain ⟨d, rfl⟩ := h
  exact ⟨rfl, rfl, rfl, Nat.le_refl _, fun _ _ => rfl⟩
theorem atRel_heap {w w₁ : World} (h : AtRel w w₁) : w₁.heap = w.heap := by
  obtain ⟨d, rfl⟩ := h; rfl

/-! ### traces -/
theorem ev_low {m : Nat} {e : Event} (h : EvLow m e) (hk : (∃ a, e.loc = .cell a) ∨ (∃ r, e.loc = .obj r) ∨ ∃ x, e.loc = .mark x ∧ Neutral x) : (MemAct.ofEvent e).low m := by
  obtain ⟨loc, wr, sy⟩ := e
  unfold EvLow at h
  rcases hk with ⟨a, rfl⟩ | ⟨r, rfl⟩ | ⟨x, rfl, hx⟩
  · exact h
  · have h' : r < m := h
    cases wr <;> cases sy <;> exact h'
  · unfold Neutral at hx; subst hx; trivial
theorem evok_kind {F : Foot} {n : Nat} {e : Event} (h : EvOk F n e) : (∃ a, e.loc = .cell a) ∨ (∃ r, e.loc = .obj r) ∨ ∃ x, e.loc = .mark x ∧ Neutral x := by
  unfold EvOk at h
  split at h
  · rename_i a e1; exact .inl ⟨a, e1⟩
  · rename_i r e1; exact .inr (.inl ⟨r, e1⟩)
  · rename_i m e1; exact .inr (.inr ⟨m, e1, h⟩)
  · exact h.elim
theorem evok_neutral {F : Foot} {n : Nat} {e : Event} (h : EvOk F n e) : ∀ m, e.loc = .mark m → Neutral m := by
  intro m hm
  unfold EvOk at h
  rw [hm] at h
  exact h

theorem wordless_ofEvents {g : Nat} {fn : FuncId} {pos : String} {es : Array Event} (h : ∀ e ∈ es, ∀ m, e.loc = .mark m → Neutral m) : Wordless (MemOp.ofEvents g fn pos es) := by
  intro op hop m hm
  obtain ⟨e, he, rfl⟩ := Go.Conc.mem_ofEvents hop
  exact ofEvent_noMark (h e he) m hm

theorem TOne.own {B B' : Nat} {t : Trace} (h : TOne B t) (hB : B ≤ B') {F : Foot} {n : Nat} {fn : FuncId} {pos : String} {es : Array Event} (hes : ∀ e ∈ es, EvOk F n e ∧ EvLow B' e) : TOne B' (t ++ MemOp.ofEvents 0 fn pos es) := by
  have h0 : ∀ op ∈ MemOp.ofEvents 0 fn pos es, op.g = 0 := fun op hop => by obtain ⟨e, _, rfl⟩ := Go.Conc.mem_ofEvents hop; rfl
  refine ⟨h.wl.append (wordless_ofEvents fun e he => evok_neutral (hes e he).1), fun said => noRace_append (h.clean said) h0 fun i a ha _ _ _ _ _ => h.known i a ha, fun i a ha => ?_, fun op hop => ?_⟩
  · obtain ⟨x, hx, hxa⟩ := touch_of ha
    rcases getElem?_append_cases hx with ⟨hi, hx'⟩ | ⟨_, hxu⟩
    · exact (h.known i a (by rw [touchAt_of hx']; exact hxa)).app _
    · have := knows_own hx
      rwa [h0 x hxu] at this
  · rcases Array.mem_append.1 hop with hop | hop
    · exact MemAct.low_mono hB (h.seen op hop)
    · obtain ⟨e, he, rfl⟩ := Go.Conc.mem_ofEvents hop
      exact ev_low (hes e he).2 (evok_kind (hes e he).1)

theorem TOne.over {B : Nat} {t : Trace} (h : TOne B t) : t.HandedOver := by
  intro i g hg hne hc
  obtain ⟨x, hx, _⟩ := hc
  obtain ⟨q, z, h1, h2, h3⟩ := h.known i x hx
  rcases h3 with rfl | h3
  · have : t.g? i = some z.g := by simp [Trace.g?, h1]
    rw [this] at hg
    exact absurd ((Option.some.inj hg).symm.trans h2) hne
  · exact ⟨q, by simp [Trace.g?, h1, h2], h3⟩

theorem quits_wakes {P : Program} {g g' b : Goroutine} {w' : World} {k : Nat} (hB : QuitsIn P k b) : woken P g g' w' b = b := woken_quits hB

section
variable {P : Program} {Post : Value → World → Prop}

/-- A leaver's step. -/
theorem lvs_slip {gs : Array Goroutine} {q : Nat → Nat} (hL : Lvs P gs q) {i : Nat} (hpos : 0 < i) {g : Goroutine} (hi : gs[i]? = some g) (hg : g.status = .running) : ∃ k g', q i = k + 1 ∧ (∀ w, stepG P false g w = .go g' w) ∧ QuitsIn P k g' := by
  have hq := hL i g hpos hi
  cases hqi : q i with
  | zero => rw [hqi] at hq; rw [show g.status = .finished from hq] at hg; cases hg
  | succ k =>
    rw [hqi] at hq
    rcases hq with hf | ⟨_, g', hst, hq'⟩
    · rw [hf] at hg; cases hg
    · exact ⟨k, g', rfl, hst, hq'⟩

theorem crowd_awake {gs : Array Goroutine} {q : Nat → Nat} (hL : Lvs P gs q) {a : Goroutine} (h0 : gs[0]? = some a) (ha : a.status = .running) : ∀ g ∈ gs, awake g := by
  intro g hg
  obtain ⟨i, hi, rfl⟩ := Array.mem_iff_getElem.1 hg
  rcases Nat.eq_zero_or_pos i with rfl | hpos
  · have : gs[0] = a := by simpa [Array.getElem?_eq_getElem hi] using h0
    rw [this]; exact awake_of (.inl ha)
  · exact awake_of ((hL i _ hpos (Array.getElem?_eq_getElem hi)).status.elim .inl fun x => .inr (.inr x))

theorem good_of {gs : Array Goroutine} {w₁ w' : World} {sl : Option (Nat × Nat)} {v : Value} {t : Trace} {B : Nat} {q : Nat → Nat} (hL : Lvs P gs q) (hv : Post v w') (hT : TOne B t) : Good P Post (crowd gs w₁ sl) (.done v) w' t := by
  refine ⟨v, rfl, hv, hT.clean, hT.over, ⟨fun x hx => ?_, rfl⟩, fun j x hx hj => ?_⟩
  · obtain ⟨j, hj⟩ := List.mem_iff_getElem?.1 hx
    rw [List.getElem?_drop] at hj
    exact ⟨_, (hL (1 + j) x (by omega) (by simpa [crowd] using hj)).leaves⟩
  · exact ⟨q j, by rw [hT.wl.deaf]; exact (hL j x (by omega) hx).hears _ 0⟩

/-- Goroutine 0 moves, or a leaver does: it is enough to look at goroutine 0. -/
theorem w1_intro {F : Foot} {a : Goroutine} {w : World} (ha : a.status = .running)
    (h : ∀ (gs : Array Goroutine) (w₁ : World) (sl : Option (Nat × Nat)) (t : Trace) (q : Nat → Nat), gs[0]? = some a → AtRel w w₁ → Lvs P gs q → TOne w₁.heap.size t →
      (∃ v w' ops B, runT P (crowd gs w₁ sl) 0 = (.ended (.done v) w', ops) ∧ Post v w' ∧ TOne B (t ++ ops)) ∨ ∃ m' ops, runT P (crowd gs w₁ sl) 0 = (.next m', ops) ∧ EndsIn P Post m' (t ++ ops)) : W1 P Post F a w := by
  intro gs w₁ sl t q h0 hr hL hT
  generalize hM : sumTo gs.size q = M
  induction M using Nat.strongRecOn generalizing gs w₁ sl t q with
  | _ M ih =>
    obtain ⟨i, g, d, sl', hi, hg, hst⟩ := crowd_pick (P := P) (w := w₁) (sl := sl) (crowd_awake hL h0 ha) ⟨0, a, h0, ha⟩
    rcases Nat.eq_zero_or_pos i with rfl | hpos
    · obtain rfl : g = a := by rw [h0] at hi; exact (Option.some.inj hi).symm
      rcases h gs (w₁.at d) sl' t q h0 (atRel_trans _ _ _ hr ⟨d, rfl⟩) hL hT with ⟨v, w', ops, B, h1, h2, h3⟩ | ⟨m', ops, h1, h2⟩
      · have hs : stepT P (crowd gs w₁ sl) = (.ended (.done v) w', ops) := hst.trans h1
        exact ⟨0, crowd gs w₁ sl, .done v, w', t ++ ops, by simp [runNT, hs], rfl, by simp [step, hs], good_of hL h2 h3⟩
      · exact ends_step (hst.trans h1) h2
    · obtain ⟨k, g', hqi, hstp, hq'⟩ := lvs_slip hL hpos hi hg
      have hi0 : (i == 0) = false := by simp; omega
      have hlt : i < gs.size := (Array.getElem?_eq_some_iff.1 hi).1
      have hrunT := runT_crowd_go (P := P) (sl := sl') (i := i) hi (by rw [hi0]; exact hstp (w₁.at d))
      have hsz : ((gs.map (woken P g g' (w₁.at d))).setIfInBounds i g').size = gs.size := by simp
      have hsum : sumTo gs.size (ConcN.upd q i k) + (k + 1) = sumTo gs.size q + k := by
        have := sumTo_upd q k id hlt
        simpa [hqi] using this
      refine ends_step (hst.trans hrunT) ?_
      rw [ofEvents_none, Array.append_empty]
      refine ih (sumTo gs.size (ConcN.upd q i k)) (by omega) _ (w₁.at d) sl' t (ConcN.upd q i k) ?_ (atRel_trans _ _ _ hr ⟨d, rfl⟩) (fun j x hj hx => ?_) hT (by rw [hsz])
      · have hne : i ≠ 0 := by omega
        rw [Array.getElem?_setIfInBounds_ne hne, Array.getElem?_map, h0]
        simp [woken_run ha]
      · by_cases hji : i = j
        · subst hji
          rw [Array.getElem?_setIfInBounds_self_of_lt (by simpa using hlt)] at hx
          obtain rfl := Option.some.inj hx
          rw [ConcN.upd_same]; exact hq'
        · rw [Array.getElem?_setIfInBounds_ne hji, Array.getElem?_map] at hx
          obtain ⟨y, hy, rfl⟩ := Option.map_eq_some_iff.1 hx
          have hqj := hL j y hj hy
          rw [woken_quits hqj, ConcN.upd_ne q k (Ne.symm hji)]
          exact hqj

/-- The judgement is closed under goroutine 0's own steps. -/
theorem w1_closed : Closed P true (W1 P Post) := by
  refine ⟨fun F a w ha h => w1_intro ha fun gs w₁ sl t q h0 hr hL hT => .inr ?_⟩
  obtain ⟨g', w', es, hst, hg, hW⟩ := h w₁ (atRel_rely hr F)
  have hrunT := runT_crowd_go (P := P) (sl := sl) (i := 0) h0 (show stepG P (0 == 0) a w₁ = _ from hst)
  have hlt : 0 < gs.size := (Array.getElem?_eq_some_iff.1 h0).1
  refine ⟨_, _, hrunT, hW _ w' sl _ q (by simp [hlt]) (atRel_refl _) (fun j x hj hx => ?_) (hT.own hg.diff.size hg.evs)⟩
  have hne : 0 ≠ j := by omega
  rw [Array.getElem?_setIfInBounds_ne hne, Array.getElem?_map] at hx
  obtain ⟨y, hy, rfl⟩ := Option.map_eq_some_iff.1 hx
  have hq := hL j y hj hy
  rw [woken_quits hq]; exact hq

/-- The last step: goroutine 0's return. -/
theorem w1_end {F : Foot} {a : Goroutine} {w : World} (ha : a.status = .running) (h : ∀ w₁, AtRel w w₁ → ∃ v es, stepG P true a w₁ = .ended (.done v) w₁ es ∧ (∀ e ∈ es, EvOk F w₁.heap.size e ∧ EvLow w₁.heap.size e) ∧ Post v w₁) : W1 P Post F a w :=
  w1_intro ha fun gs w₁ sl t q h0 hr hL hT => by
    obtain ⟨v, es, h1, h2, h3⟩ := h w₁ hr
    exact .inl ⟨v, w₁, _, _, runT_many_ended h0 (show stepG P (0 == 0) a w₁ = _ from h1), h3, hT.own (Nat.le_refl _) h2⟩

/-- What everybody only reads stands as it stood in a world of reference. -/
structure RoFix (w0 : World) (F : Foot) (w : World) : Prop where
  ro : ∀ b, F.ro b → b < w.heap.size ∧ ¬ F.mine b ∧ w.heap[b]? = w0.heap[b]?
  os : w.os = w0.os
  output : w.output = w0.output
  tape : w.tape = w0.tape

/-- Where what is only read stands as in a world of reference. -/
def Wn (P : Program) (Post : Value → World → Prop) (w0 : World) (F : Foot) (g : Goroutine) (w : World) : Prop := RoFix w0 F w → W1 P Post F g w

theorem RoFix.rely {w0 w w₁ : World} {F F0 : Foot} (h : RoFix w0 F w) (hm : ∀ b, F0.mine b → F.mine b) (hr : F0.ro = F.ro) (r : Rely F0 w w₁) : RoFix w0 F0 w₁ :=
  ⟨fun b hb => by
    obtain ⟨q1, q2, q3⟩ := h.ro b (by rw [← hr]; exact hb)
    exact ⟨Nat.lt_of_lt_of_le q1 r.size, fun hx => q2 (hm b hx), by rw [r.block b (.inr hb)]; exact q3⟩, r.os.trans h.os, r.output.trans h.output, r.tape.trans h.tape⟩

theorem wn_closed {w0 : World} : Closed P true (Wn P Post w0) := by
  refine ⟨fun F g w hr h hro => ?_⟩
  refine w1_closed.step F g w hr fun w₁ r => ?_
  obtain ⟨g', w', es, h1, h2, h3⟩ := h w₁ r
  refine ⟨g', w', es, h1, h2, h3 ⟨fun b hb => ?_, (h2.diff.os.trans r.os).trans hro.os, (h2.diff.output.trans r.output).trans hro.output, (h2.diff.tape.trans r.tape).trans hro.tape⟩⟩
  obtain ⟨q1, q2, q3⟩ := hro.ro b hb
  have hlt : b < w₁.heap.size := Nat.lt_of_lt_of_le q1 r.size
  refine ⟨Nat.lt_of_lt_of_le hlt h2.diff.size, fun hm => ?_, ?_⟩
  · rcases hm with hm | hm
    · exact q2 hm
    · omega
  · rw [h2.diff.block b (fun hm => by rcases hm with hm | hm; exact q2 hm; omega), r.block b (.inr hb)]
    exact q3
end
end Go.Proofs.Evz

/-
  ENGINE 32. The machine: traces while goroutine 0 waits for a child that closes a channel.
-/
namespace Go.Proofs.Evz
open Go Go.Conc

def EvKind (e : Event) : Prop := (∃ a, e.loc = .cell a) ∨ (∃ r, e.loc = .obj r) ∨ ∃ x, e.loc = .mark x ∧ Neutral x
theorem evkind_neutral {e : Event} (h : EvKind e) : ∀ m, e.loc = .mark m → Neutral m := by
  intro m hm
  rcases h with ⟨a, h⟩ | ⟨r, h⟩ | ⟨y, h, hy⟩
  · rw [h] at hm; cases hm
  · rw [h] at hm; cases hm
  · rw [h] at hm; cases hm; exact hy

/-- The trace while the child runs: the child knows all that was touched. -/
structure TTwo (k : Nat) (B : Nat) (t : Trace) : Prop where
  wl : Wordless t
  clean : ∀ said, ¬ Race said t
  kn : ∀ i a, touchAt t i = some a → Knows t k i
  seen : ∀ op ∈ t, op.act.low B

/-- .. once it has closed the channel. -/
structure TShut (c : Nat) (B : Nat) (t : Trace) : Prop where
  wl : Wordless t
  clean : ∀ said, ¬ Race said t
  kn : ∃ p, t.act? p = some (.close c) ∧ ∀ i a, touchAt t i = some a → Before t i p
  seen : ∀ op ∈ t, op.act.low B

def Foot.all (F : Foot) (b : Nat) : Prop := F.mine b ∨ F.ro b
theorem all_grow {F : Foot} {n m b : Nat} : (F.grow n m).all b ↔ F.all b ∨ (n ≤ b ∧ b < m) := by
  unfold Foot.all Foot.grow
  constructor
  · rintro ((h | h) | h)
    · exact .inl (.inl h)
    · exact .inr h
    · exact .inl (.inr h)
  · rintro ((h | h) | h)
    · exact .inl (.inl h)
    · exact .inr h
    · exact .inl (.inr h)

section
variable {k : Nat} {B B' : Nat} {t : Trace} {fn : FuncId} {pos : String} {es : Array Event}

theorem ops_of {g : Nat} : ∀ op ∈ MemOp.ofEvents g fn pos es, op.g = g := fun op hop => by obtain ⟨e, _, rfl⟩ := Go.Conc.mem_ofEvents hop; rfl

/-- A step of the child's own. -/
theorem TTwo.own1 (h : TTwo k B t) (hB : B ≤ B') (hes : ∀ e ∈ es, EvKind e ∧ EvLow B' e) : TTwo k B' (t ++ MemOp.ofEvents k fn pos es) := by
  refine ⟨h.wl.append (wordless_ofEvents fun e he => evkind_neutral (hes e he).1), fun said => noRace_append (h.clean said) ops_of fun i a ha _ _ _ _ _ => h.kn i a ha, fun i a ha => ?_, fun op hop => ?_⟩
  · obtain ⟨x, hx, hxa⟩ := touch_of ha
    rcases getElem?_append_cases hx with ⟨hi, hx'⟩ | ⟨_, hxu⟩
    · exact (h.kn i a (by rw [touchAt_of hx']; exact hxa)).app _
    · have := knows_own hx
      rwa [ops_of x hxu] at this
  · rcases Array.mem_append.1 hop with hop | hop
    · exact MemAct.low_mono hB (h.seen op hop)
    · obtain ⟨e, he, rfl⟩ := Go.Conc.mem_ofEvents hop
      exact ev_low (hes e he).2 (hes e he).1

/-- The child closes the channel. -/
theorem TTwo.shut (h : TTwo k B t) {c : Nat} (hc : c < B) {y : MemOp} (hy : y.g = k) (hyc : y.act = .close c) : TShut c B (t ++ #[y]) := by
  have hyt : y.act.touch? = none := by rw [hyc]; rfl
  have hlast : (t ++ #[y])[t.size]? = some y := by rw [Array.getElem?_append_right (Nat.le_refl _)]; simp
  have hone : ∀ op ∈ #[y], op = y := fun op hop => by simpa using hop
  refine ⟨h.wl.append fun op hop m hm => (by rw [hone op hop, hyc] at hm; cases hm), fun said => noRace_append (h.clean said) (g := k) (fun op hop => by rw [hone op hop, hy]) fun i a _ op hop b hb _ => (by rw [hone op hop, hyt] at hb; cases hb), ⟨t.size, by rw [act?_of hlast, hyc], fun i a ha => ?_⟩, fun op hop => ?_⟩
  · obtain ⟨x, hx, hxa⟩ := touch_of ha
    rcases getElem?_append_cases hx with ⟨hi, hx'⟩ | ⟨_, hxu⟩
    · exact .inr ((h.kn i a (by rw [touchAt_of hx']; exact hxa)).hb_new (Nat.le_refl _) hlast hy)
    · rw [hone x hxu, hyt] at hxa; cases hxa
  · rcases Array.mem_append.1 hop with hop | hop
    · exact h.seen op hop
    · rw [hone op hop, hyc]; exact hc

/-- Goroutine 0 finds it closed. -/
theorem TShut.seenClosed {c : Nat} (h : TShut c B t) (hc : c < B) {y : MemOp} (hy : y.g = 0) (hyc : y.act = .recvClosed c) : TOne B (t ++ #[y]) := by
  obtain ⟨p, hp, hk⟩ := h.kn
  have hyt : y.act.touch? = none := by rw [hyc]; rfl
  have hlast : (t ++ #[y])[t.size]? = some y := by rw [Array.getElem?_append_right (Nat.le_refl _)]; simp
  have hone : ∀ op ∈ #[y], op = y := fun op hop => by simpa using hop
  have hwl : Wordless (t ++ #[y]) := h.wl.append fun op hop m hm => (by rw [hone op hop, hyc] at hm; cases hm)
  have hpl := lt_of_act? hp
  obtain ⟨x, hx, _⟩ := Option.map_eq_some_iff.1 hp
  have hx' : (t ++ #[y])[p]? = some x := by rw [getElem?_append_old hpl]; exact hx
  have hedge : HappensBefore (t ++ #[y]) p t.size := .single (.inr ⟨.closed (c := c) (by rw [act?_old hpl]; exact hp) (by rw [act?_of hlast, hyc]), hwl.heard hx', hwl.heard hlast⟩)
  refine ⟨hwl, fun said => noRace_append (h.clean said) (g := 0) (fun op hop => by rw [hone op hop, hy]) fun i a _ op hop b hb _ => (by rw [hone op hop, hyt] at hb; cases hb), fun i a ha => ?_, fun op hop => ?_⟩
  · obtain ⟨z, hz, hza⟩ := touch_of ha
    rcases getElem?_append_cases hz with ⟨hi, hz'⟩ | ⟨_, hzu⟩
    · have ha' : touchAt t i = some a := by rw [touchAt_of hz']; exact hza
      exact ⟨t.size, y, hlast, hy, .inr (((hk i a ha').app _).hb hedge)⟩
    · rw [hone z hzu, hyt] at hza; cases hza
  · rcases Array.mem_append.1 hop with hop | hop
    · exact h.seen op hop
    · rw [hone op hop, hyc]; exact hc

/-- The child begins. -/
theorem TOne.two (h : TOne B t) {x y : MemOp} (hx : x.g = 0) (hxa : x.act = .go k) (hy : y.g = k) (hya : y.act = .start) : TTwo k B ((t ++ #[x]) ++ #[y]) := by
  have h1 : ∀ op ∈ #[x], op = x := fun op hop => by simpa using hop
  have h2 : ∀ op ∈ #[y], op = y := fun op hop => by simpa using hop
  have hxt : x.act.touch? = none := by rw [hxa]; rfl
  have hyt : y.act.touch? = none := by rw [hya]; rfl
  have hwl : Wordless ((t ++ #[x]) ++ #[y]) := (h.wl.append fun op hop m hm => by rw [h1 op hop, hxa] at hm; cases hm).append fun op hop m hm => by rw [h2 op hop, hya] at hm; cases hm
  have hgx : (t ++ #[x])[t.size]? = some x := by rw [Array.getElem?_append_right (Nat.le_refl _)]; simp
  have hsz : (t ++ #[x]).size = t.size + 1 := by simp
  have hgx' : ((t ++ #[x]) ++ #[y])[t.size]? = some x := by rw [getElem?_append_old (by omega)]; exact hgx
  have hgy : ((t ++ #[x]) ++ #[y])[t.size + 1]? = some y := by
    have : ((t ++ #[x]) ++ #[y])[(t ++ #[x]).size]? = some y := by rw [Array.getElem?_append_right (Nat.le_refl _)]; simp
    rwa [hsz] at this
  have hone : ∀ said, ¬ Race said (t ++ #[x]) := fun said => noRace_append (h.clean said) (g := 0) (fun op hop => by rw [h1 op hop, hx]) fun i a _ op hop b hb _ => by rw [h1 op hop, hxt] at hb; cases hb
  have hedge : HappensBefore ((t ++ #[x]) ++ #[y]) t.size (t.size + 1) := .single (.inr ⟨.spawn (child := k) (by rw [act?_of hgx', hxa]) (by rw [act?_of hgy, hya]) (by unfold Trace.g?; rw [hgy]; exact congrArg some hy), hwl.heard hgx', hwl.heard hgy⟩)
  refine ⟨hwl, fun said => noRace_append (hone said) (g := k) (fun op hop => by rw [h2 op hop, hy]) fun i a _ op hop b hb _ => (by rw [h2 op hop, hyt] at hb; cases hb), fun i a ha => ?_, fun op hop => ?_⟩
  · obtain ⟨z, hz, hza⟩ := touch_of ha
    rcases getElem?_append_cases hz with ⟨_, hz'⟩ | ⟨_, hzu⟩
    · rcases getElem?_append_cases hz' with ⟨_, hz2⟩ | ⟨_, hzu⟩
      · have hk := h.known i a (by rw [touchAt_of hz2]; exact hza)
        have hb : HappensBefore (t ++ #[x]) i t.size := hk.hb_new (Nat.le_refl _) hgx hx
        exact ⟨t.size + 1, y, hgy, hy, .inr ((hb_app _ hb).trans hedge)⟩
      · rw [h1 z hzu, hxt] at hza; cases hza
    · rw [h2 z hzu, hyt] at hza; cases hza
  · rcases Array.mem_append.1 hop with hop | hop
    · rcases Array.mem_append.1 hop with hop | hop
      · exact h.seen op hop
      · rw [h1 op hop, hxa]; trivial
    · rw [h2 op hop, hya]; trivial
end
end Go.Proofs.Evz

/-
  ENGINE 33. The machine: a child that closes, a parent that waits for that.
-/
namespace Go.Proofs.Evz
open Go Go.Conc
open Go.ConcN (sumTo sumTo_upd)

/-- A goroutine walks by steps of its own to where Stop holds. -/
inductive Walk (P : Program) (main : Bool) (Stop : Foot → Goroutine → World → Prop) : Foot → Goroutine → World → Prop
  | stop {F : Foot} {g : Goroutine} {w : World} : (∀ w₁, Rely F w w₁ → Stop F g w₁) → Walk P main Stop F g w
  | step {F : Foot} {g : Goroutine} {w : World} : g.status = .running → (∀ w₁, Rely F w w₁ → ∃ g' w' es, stepG P main g w₁ = .go g' w' es ∧ Guar F w₁ w' es) →
      (∀ w₁, Rely F w w₁ → ∀ g' w' es, stepG P main g w₁ = .go g' w' es → Walk P main Stop (F.grow w₁.heap.size w'.heap.size) g' w') → Walk P main Stop F g w

theorem walk_closed (P : Program) (main : Bool) (Stop : Foot → Goroutine → World → Prop) : Closed P main (Walk P main Stop) := by
  refine ⟨fun F g w hr h => .step hr (fun w₁ r => ?_) fun w₁ r g' w' es hst => ?_⟩
  · obtain ⟨g', w', es, h1, h2, _⟩ := h w₁ r
    exact ⟨g', w', es, h1, h2⟩
  · obtain ⟨g2, w2, es2, h1, _, h3⟩ := h w₁ r
    rw [hst] at h1
    cases h1
    exact h3

theorem Rely.trans' {F : Foot} {a b c : World} (h : Rely F a b) (h' : Rely F b c) : Rely F a c :=
  ⟨h'.os.trans h.os, h'.output.trans h.output, h'.tape.trans h.tape, Nat.le_trans h.size h'.size, fun x hx => (h'.block x hx).trans (h.block x hx)⟩

/-- So many steps, the same in every world, that touch nothing. -/
def Slides (P : Program) (main : Bool) : Nat → Goroutine → Goroutine → Prop
  | 0, g, g' => g = g'
  | n + 1, g, g' => g.status = .running ∧ ∃ g1, (∀ w, stepG P main g w = .go g1 w) ∧ Slides P main n g1 g'

/-- The channel is open and empty. -/
def OpenCh (w : World) (c : Nat) : Prop := w.heap[c]? = some (.chan 0 #[] false 0 0 false)
def ShutCh (w : World) (c : Nat) : Prop := w.heap[c]? = some (.chan 0 #[] true 0 0 false)

/-- It stands at a receive. -/
def AtRecv' (P : Program) (c : Nat) (z : Value) (g : Goroutine) : Prop :=
  g.status = .running ∧ ∀ w, (OpenCh w c ∨ ShutCh w c) → stepG P true g w = .comm (core g) #[rcase c z] true (.recv true) w #[]

/-- It stands at the close: behind it, it only leaves. -/
def StopClose (P : Program) (c : Nat) (_ : Foot) (g : Goroutine) (w : World) : Prop :=
  g.status = .running ∧ mayWake P g = true ∧ (OpenCh w c → ∃ g₂ q, stepG P false g w = .go g₂ (w.shut c 0 0 false) #[⟨.obj c, false, true⟩, ⟨.obj c, true, true⟩] ∧ QuitsIn P q g₂)

def LvsBut (k : Nat) (P : Program) (gs : Array Goroutine) (q : Nat → Nat) : Prop := ∀ i g, 0 < i → i ≠ k → gs[i]? = some g → QuitsIn P (q i) g

section
variable {P : Program} {Post : Value → World → Prop} {c k : Nat} {z : Value}

theorem quits_status {n : Nat} {g : Goroutine} (h : QuitsIn P n g) : g.status ≠ .blocked := by
  rcases h.status with e | e <;> rw [e] <;> simp

/-- Nobody offers to send. -/
theorem no_senders {gs : Array Goroutine} (h : ∀ (j : Nat) (g : Goroutine), 0 < j → gs[j]? = some g → g.status ≠ .blocked) (r : Nat) : partners (gs.setIfInBounds 0 ph) r true = [] := by
  refine partners_nil fun j g hg => ?_
  rcases getElem?_stand gs 0 j g hg with ⟨rfl, rfl⟩ | ⟨hj, hg⟩
  · exact offersAt_ph r true
  · exact offersAt_of_not_blocked (h j g (by omega) hg) r true

/-- The last phase: the channel is closed, everybody else is leaving. -/
theorem three_phase {F0 : Foot} {w0 : World} {gR : Goroutine} (hR : AtRecv' P c z gR) (hfin : ∀ w₂, Rely F0 w0 w₂ → W1 P Post F0 (Go.Conc.served (core gR) (.tuple #[z, .bool false])) w₂) :
    ∀ (M n : Nat) (gs : Array Goroutine) (a : Goroutine) (w : World) (sl : Option (Nat × Nat)) (t : Trace) (q : Nat → Nat), n + sumTo gs.size q ≤ M → gs[0]? = some a → Lvs P gs q → Rely F0 w0 w → ShutCh w c →
      (Slides P true n a gR ∨ (n = 0 ∧ a.status = .running ∧ ∀ w, stepG P true a w = stepG P true gR w)) → TShut c w.heap.size t → EndsIn P Post (crowd gs w sl) t := by
  intro M
  induction M with
  | zero =>
    intro n gs a w sl t q hM h0 hL hr hc hs hT
    obtain rfl : n = 0 := by omega
    have ha : a.status = .running := by
      rcases hs with hs | hs
      · rw [show a = gR from hs]; exact hR.1
      · exact hs.2.1
    have hst : ∀ w, stepG P true a w = stepG P true gR w := by
      rcases hs with hs | hs
      · intro w; rw [show a = gR from hs]
      · exact hs.2.2
    obtain ⟨i, g, d, sl', hi, hg, hstp⟩ := crowd_pick (P := P) (w := w) (sl := sl) (crowd_awake hL h0 ha) ⟨0, a, h0, ha⟩
    rcases Nat.eq_zero_or_pos i with rfl | hpos
    · obtain rfl : g = a := by rw [h0] at hi; exact (Option.some.inj hi).symm
      have hc1 : ShutCh (w.at d) c := hc
      have hcomm : stepG P (0 == 0) g (w.at d) = .comm (core gR) #[rcase c z] true (.recv true) (w.at d) #[] := by
        show stepG P true g (w.at d) = _
        rw [hst]; exact hR.2 _ (.inr hc1)
      have hrun := crowd_recv_closed (P := P) (gs := gs) (sl := sl') (i := 0) hi hcomm hc1 (no_senders (fun j x hj hx => quits_status (hL j x hj hx)) c)
      refine ends_step (hstp.trans hrun) ?_
      rw [ofEvents_none, Array.empty_append]
      have hlt : 0 < gs.size := (Array.getElem?_eq_some_iff.1 hi).1
      refine hfin (w.at d) (hr.trans' (atRel_rely ⟨d, rfl⟩ F0)) _ (w.at d) sl' _ q ?_ (atRel_refl _) (fun j x hj hx => ?_) (hT.seenClosed (lt_of_get hc) rfl rfl)
      · rw [Array.getElem?_setIfInBounds_self_of_lt hlt, finishComm_recv]; rfl
      · rw [Array.getElem?_setIfInBounds_ne (by omega)] at hx
        exact hL j x hj hx
    · obtain ⟨k', g', hqi, _⟩ := lvs_slip hL hpos hi hg
      have hlt : i < gs.size := (Array.getElem?_eq_some_iff.1 hi).1
      have := ConcN.le_sumTo (f := q) hlt
      omega
  | succ M ih =>
    intro n gs a w sl t q hM h0 hL hr hc hs hT
    have ha : a.status = .running := by
      rcases hs with hs | hs
      · cases n with
        | zero => rw [show a = gR from hs]; exact hR.1
        | succ n => exact hs.1
      · exact hs.2.1
    obtain ⟨i, g, d, sl', hi, hg, hstp⟩ := crowd_pick (P := P) (w := w) (sl := sl) (crowd_awake hL h0 ha) ⟨0, a, h0, ha⟩
    have hrd : Rely F0 w0 (w.at d) := hr.trans' (atRel_rely ⟨d, rfl⟩ F0)
    rcases Nat.eq_zero_or_pos i with rfl | hpos
    · obtain rfl : g = a := by rw [h0] at hi; exact (Option.some.inj hi).symm
      have hlt : 0 < gs.size := (Array.getElem?_eq_some_iff.1 hi).1
      have recv : (∀ w, stepG P true g w = stepG P true gR w) → EndsIn P Post (crowd gs w sl) t := by
        intro hst
        have hc1 : ShutCh (w.at d) c := hc
        have hcomm : stepG P (0 == 0) g (w.at d) = .comm (core gR) #[rcase c z] true (.recv true) (w.at d) #[] := by
          show stepG P true g (w.at d) = _
          rw [hst]; exact hR.2 _ (.inr hc1)
        have hrun := crowd_recv_closed (P := P) (gs := gs) (sl := sl') (i := 0) hi hcomm hc1 (no_senders (fun j x hj hx => quits_status (hL j x hj hx)) c)
        refine ends_step (hstp.trans hrun) ?_
        rw [ofEvents_none, Array.empty_append]
        refine hfin (w.at d) hrd _ (w.at d) sl' _ q ?_ (atRel_refl _) (fun j x hj hx => ?_) (hT.seenClosed (lt_of_get hc) rfl rfl)
        · rw [Array.getElem?_setIfInBounds_self_of_lt hlt, finishComm_recv]; rfl
        · rw [Array.getElem?_setIfInBounds_ne (by omega)] at hx
          exact hL j x hj hx
      rcases hs with hs | hs
      · cases n with
        | zero => exact recv fun w => by rw [show g = gR from hs]
        | succ n =>
          obtain ⟨_, g1, hgo, hs'⟩ := hs
          have hrun := runT_crowd_go (P := P) (sl := sl') (i := 0) hi (show stepG P (0 == 0) g (w.at d) = _ from hgo _)
          refine ends_step (hstp.trans hrun) ?_
          rw [ofEvents_none, Array.append_empty]
          have hsz : ((gs.map (woken P g g1 (w.at d))).setIfInBounds 0 g1).size = gs.size := by simp
          refine ih n _ g1 (w.at d) sl' t q (by rw [hsz]; omega) (by simp [hlt]) (fun j x hj hx => ?_) hrd hc (.inl hs') hT
          rw [Array.getElem?_setIfInBounds_ne (by omega), Array.getElem?_map] at hx
          obtain ⟨y, hy, rfl⟩ := Option.map_eq_some_iff.1 hx
          have hq := hL j y hj hy
          rw [woken_quits hq]; exact hq
      · exact recv hs.2.2
    · obtain ⟨k', g', hqi, hgo, hq'⟩ := lvs_slip hL hpos hi hg
      have hi0 : (i == 0) = false := by simp; omega
      have hlt : i < gs.size := (Array.getElem?_eq_some_iff.1 hi).1
      have hrun := runT_crowd_go (P := P) (sl := sl') (i := i) hi (by rw [hi0]; exact hgo (w.at d))
      have hsz : ((gs.map (woken P g g' (w.at d))).setIfInBounds i g').size = gs.size := by simp
      have hsum : sumTo gs.size (ConcN.upd q i k') + (k' + 1) = sumTo gs.size q + k' := by
        have := sumTo_upd q k' id hlt
        simpa [hqi] using this
      refine ends_step (hstp.trans hrun) ?_
      rw [ofEvents_none, Array.append_empty]
      refine ih n _ a (w.at d) sl' t (ConcN.upd q i k') (by rw [hsz]; omega) ?_ (fun j x hj hx => ?_) hrd hc hs hT
      · rw [Array.getElem?_setIfInBounds_ne (by omega), Array.getElem?_map, h0]
        simp [woken_run ha]
      · by_cases hji : i = j
        · subst hji
          rw [Array.getElem?_setIfInBounds_self_of_lt (by simpa using hlt)] at hx
          obtain rfl := Option.some.inj hx
          rw [ConcN.upd_same]; exact hq'
        · rw [Array.getElem?_setIfInBounds_ne hji, Array.getElem?_map] at hx
          obtain ⟨y, hy, rfl⟩ := Option.map_eq_some_iff.1 hx
          have hqj := hL j y hj hy
          rw [woken_quits hqj, ConcN.upd_ne q k' (Ne.symm hji)]
          exact hqj

/-- Where goroutine 0 stands while the channel is open: on its way (it counts n + 1), or parked. -/
def Sit (P : Program) (c : Nat) (z : Value) (gR : Goroutine) (m : Nat) (a : Goroutine) : Prop :=
  (∃ n, m = n + 1 ∧ Slides P true n a gR) ∨ (m = 0 ∧ a = parked (core gR) #[rcase c z] (.recv true))

theorem Sit.running {gR a : Goroutine} {m : Nat} (hR : AtRecv' P c z gR) (h : Sit P c z gR m a) (hm : 0 < m) : a.status = .running := by
  rcases h with ⟨n, rfl, hs⟩ | ⟨rfl, _⟩
  · cases n with
    | zero => rw [show a = gR from hs]; exact hR.1
    | succ n => exact hs.1
  · omega

theorem Sit.woken {gR a g g' : Goroutine} {m : Nat} {w : World} (hR : AtRecv' P c z gR) (h : Sit P c z gR m a) (hc : OpenCh w c) : woken P g g' w a = a := by
  rcases Nat.eq_zero_or_pos m with rfl | hm
  · rcases h with ⟨n, e, _⟩ | ⟨_, rfl⟩
    · omega
    · exact woken_recv_open g g' hc
  · exact woken_run (h.running hR hm)

/-- Two run; the channel is open. -/
structure Two (P : Program) (c k : Nat) (z : Value) (F0 : Foot) (w0 : World) (gR : Goroutine) (F1 : Foot) (g1 : Goroutine) (w1 : World) (m : Nat) (gs : Array Goroutine) (a : Goroutine) (w : World) (t : Trace) (q : Nat → Nat) : Prop where
  h0 : gs[0]? = some a
  h1 : gs[k]? = some g1
  lv : LvsBut k P gs q
  r0 : Rely F0 w0 w
  r1 : Rely F1 w1 w
  op : OpenCh w c
  dj : ∀ b, F1.all b → b < w.heap.size ∧ b ≠ c ∧ ¬ F0.all b
  st : Sit P c z gR m a
  tr : TTwo k w.heap.size t

theorem two_core {F0 F1 : Foot} {w0 w1 : World} {gR g1 : Goroutine} (hR : AtRecv' P c z gR) (hk : 0 < k) (hg1 : g1.status = .running)
    (Hk : ∀ (m : Nat) (gs : Array Goroutine) (a : Goroutine) (w : World) (sl : Option (Nat × Nat)) (t : Trace) (q : Nat → Nat), Two P c k z F0 w0 gR F1 g1 w1 m gs a w t q → ∃ m' ops, runT P (crowd gs w sl) k = (.next m', ops) ∧ EndsIn P Post m' (t ++ ops)) :
    ∀ (M m : Nat) (gs : Array Goroutine) (a : Goroutine) (w : World) (sl : Option (Nat × Nat)) (t : Trace) (q : Nat → Nat), m + sumTo gs.size q = M → Two P c k z F0 w0 gR F1 g1 w1 m gs a w t q → EndsIn P Post (crowd gs w sl) t := by
  intro M
  induction M using Nat.strongRecOn with
  | _ M ih =>
  intro m gs a w sl t q hM h
  have hnb : ∀ (j : Nat) (x : Goroutine), 0 < j → gs[j]? = some x → x.status ≠ .blocked := by
    intro j x hj hx
    by_cases e : j = k
    · subst e
      rw [h.h1] at hx
      cases hx
      rw [hg1]; simp
    · exact quits_status (h.lv j x hj e hx)
  have haw : ∀ g ∈ gs, awake g := by
    intro g hg
    obtain ⟨i, hi, rfl⟩ := Array.mem_iff_getElem.1 hg
    rcases Nat.eq_zero_or_pos i with rfl | hpos
    · have : gs[0] = a := by simpa [Array.getElem?_eq_getElem hi] using h.h0
      rw [this]
      rcases Nat.eq_zero_or_pos m with rfl | hm
      · rcases h.st with ⟨n, e, _⟩ | ⟨_, rfl⟩
        · omega
        · exact awake_of (.inr (.inl rfl))
      · exact awake_of (.inl (h.st.running hR hm))
    · by_cases e : i = k
      · subst e
        have := h.h1
        rw [Array.getElem?_eq_getElem hi] at this
        rw [Option.some.inj this]; exact awake_of (.inl hg1)
      · exact awake_of ((h.lv i _ hpos e (Array.getElem?_eq_getElem hi)).status.elim .inl fun x => .inr (.inr x))
  obtain ⟨i, g, d, sl', hi, hg, hstp⟩ := crowd_pick (P := P) (w := w) (sl := sl) haw ⟨k, g1, h.h1, hg1⟩
  have hd : AtRel w (w.at d) := ⟨d, rfl⟩
  have h' : Two P c k z F0 w0 gR F1 g1 w1 m gs a (w.at d) t q := ⟨h.h0, h.h1, h.lv, h.r0.trans' (atRel_rely hd F0), h.r1.trans' (atRel_rely hd F1), h.op, h.dj, h.st, h.tr⟩
  by_cases hik : i = k
  · subst hik
    obtain ⟨m', ops, hrun, hE⟩ := Hk m gs a (w.at d) sl' t q h'
    exact ends_step (hstp.trans hrun) hE
  rcases Nat.eq_zero_or_pos i with rfl | hpos
  · obtain rfl : g = a := by rw [h.h0] at hi; exact (Option.some.inj hi).symm
    have hlt : 0 < gs.size := (Array.getElem?_eq_some_iff.1 hi).1
    rcases h.st with ⟨n, rfl, hs⟩ | ⟨_, rfl⟩
    · cases n with
      | zero =>
        obtain rfl : g = gR := hs
        have hcomm : stepG P (0 == 0) g (w.at d) = .comm (core g) #[rcase c z] true (.recv true) (w.at d) #[] := hR.2 _ (.inl h'.op)
        have hnp := no_senders hnb c
        have hrun := crowd_waits (P := P) (gs := gs) (sl := sl') (i := 0) hi hcomm (fun cc hcc => by
          have : cc = rcase c z := by simpa using hcc
          rw [this]; exact ways_recv_none h'.op hnp)
        refine ends_step (hstp.trans hrun) ?_
        rw [ofEvents_none, Array.append_empty]
        have hsz : (gs.setIfInBounds 0 (parked (core g) #[rcase c z] (.recv true))).size = gs.size := by simp
        refine ih (0 + sumTo gs.size q) (by omega) 0 _ (parked (core g) #[rcase c z] (.recv true)) (w.at d) sl' t q (by rw [hsz]) ⟨by simp [hlt], ?_, fun j x hj hjk hx => ?_, h'.r0, h'.r1, h'.op, h'.dj, .inr ⟨rfl, rfl⟩, h'.tr⟩
        · rw [Array.getElem?_setIfInBounds_ne (by omega)]; exact h.h1
        · rw [Array.getElem?_setIfInBounds_ne (by omega)] at hx
          exact h.lv j x hj hjk hx
      | succ n =>
        obtain ⟨_, g2, hgo, hs'⟩ := hs
        have hrun := runT_crowd_go (P := P) (sl := sl') (i := 0) hi (show stepG P (0 == 0) g (w.at d) = _ from hgo _)
        refine ends_step (hstp.trans hrun) ?_
        rw [ofEvents_none, Array.append_empty]
        have hsz : ((gs.map (woken P g g2 (w.at d))).setIfInBounds 0 g2).size = gs.size := by simp
        refine ih (n + 1 + sumTo gs.size q) (by omega) (n + 1) _ g2 (w.at d) sl' t q (by rw [hsz]) ⟨by simp [hlt], ?_, fun j x hj hjk hx => ?_, h'.r0, h'.r1, h'.op, h'.dj, .inl ⟨n, rfl, hs'⟩, h'.tr⟩
        · rw [Array.getElem?_setIfInBounds_ne (by omega), Array.getElem?_map, h.h1]
          simp [woken_run hg1]
        · rw [Array.getElem?_setIfInBounds_ne (by omega), Array.getElem?_map] at hx
          obtain ⟨y, hy, rfl⟩ := Option.map_eq_some_iff.1 hx
          have hq := h.lv j y hj hjk hy
          rw [woken_quits hq]; exact hq
    · simp [parked] at hg
  · have hq := h.lv i g hpos hik hi
    cases hqi : q i with
    | zero => rw [hqi] at hq; rw [show g.status = .finished from hq] at hg; cases hg
    | succ k' =>
      rw [hqi] at hq
      rcases hq with hf | ⟨_, g', hgo, hq'⟩
      · rw [hf] at hg; cases hg
      have hi0 : (i == 0) = false := by simp; omega
      have hlt : i < gs.size := (Array.getElem?_eq_some_iff.1 hi).1
      have hrun := runT_crowd_go (P := P) (sl := sl') (i := i) hi (by rw [hi0]; exact hgo (w.at d))
      have hsz : ((gs.map (woken P g g' (w.at d))).setIfInBounds i g').size = gs.size := by simp
      have hsum : sumTo gs.size (ConcN.upd q i k') + (k' + 1) = sumTo gs.size q + k' := by
        have := sumTo_upd q k' id hlt
        simpa [hqi] using this
      refine ends_step (hstp.trans hrun) ?_
      rw [ofEvents_none, Array.append_empty]
      refine ih (m + sumTo gs.size (ConcN.upd q i k')) (by omega) m _ a (w.at d) sl' t (ConcN.upd q i k') (by rw [hsz]) ⟨?_, ?_, fun j x hj hjk hx => ?_, h'.r0, h'.r1, h'.op, h'.dj, h'.st, h'.tr⟩
      · rw [Array.getElem?_setIfInBounds_ne (by omega), Array.getElem?_map, h.h0]
        simp [h.st.woken hR h'.op]
      · rw [Array.getElem?_setIfInBounds_ne hik, Array.getElem?_map, h.h1]
        simp [woken_run hg1]
      · by_cases hji : i = j
        · subst hji
          rw [Array.getElem?_setIfInBounds_self_of_lt (by simpa using hlt)] at hx
          obtain rfl := Option.some.inj hx
          rw [ConcN.upd_same]; exact hq'
        · rw [Array.getElem?_setIfInBounds_ne hji, Array.getElem?_map] at hx
          obtain ⟨y, hy, rfl⟩ := Option.map_eq_some_iff.1 hx
          have hqj := h.lv j y hj hjk hy
          rw [woken_quits hqj, ConcN.upd_ne q k' (Ne.symm hji)]
          exact hqj

theorem two_phase {F0 : Foot} {w0 : World} {gR : Goroutine} (hR : AtRecv' P c z gR) (hfin : ∀ w₂, Rely F0 w0 w₂ → W1 P Post F0 (Go.Conc.served (core gR) (.tuple #[z, .bool false])) w₂)
    (h0w : ∀ b, F0.all b → b < w0.heap.size ∧ b ≠ c) (hk : 0 < k) {F1 : Foot} {g1 : Goroutine} {w1 : World} (hW : Walk P false (StopClose P c) F1 g1 w1) :
    ∀ (m : Nat) (gs : Array Goroutine) (a : Goroutine) (w : World) (sl : Option (Nat × Nat)) (t : Trace) (q : Nat → Nat), Two P c k z F0 w0 gR F1 g1 w1 m gs a w t q → EndsIn P Post (crowd gs w sl) t := by
  have hk0 : (k == 0) = false := by simp; omega
  induction hW with
  | @stop F1 g1 w1 hstop =>
    intro m gs a w sl t q h
    refine two_core hR hk (hstop w h.r1).1 (fun m gs a w sl t q h => ?_) _ m gs a w sl t q rfl h
    obtain ⟨hrun1, hwake, hcl⟩ := hstop w h.r1
    obtain ⟨g₂, nq, hgo, hq⟩ := hcl h.op
    have hrun := runT_crowd_go (P := P) (sl := sl) (i := k) h.h1 (by rw [hk0]; exact hgo)
    refine ⟨_, _, hrun, ?_⟩
    have hltk : k < gs.size := (Array.getElem?_eq_some_iff.1 h.h1).1
    have hlt0 : 0 < gs.size := (Array.getElem?_eq_some_iff.1 h.h0).1
    have hwk : ∀ o, woken P g1 g₂ (w.shut c 0 0 false) o = o.again (w.shut c 0 0 false) := by
      intro o; unfold Go.Conc.woken; rcases hq.status with e | e <;> simp [hwake, e]
    have hsc : ShutCh (w.shut c 0 0 false) c := heap_put h.op
    have hsize : (w.shut c 0 0 false).heap.size = w.heap.size := by simp [World.shut]
    have hr0 : Rely F0 w0 (w.shut c 0 0 false) := h.r0.trans' ⟨rfl, rfl, rfl, by rw [hsize]; exact Nat.le_refl _, fun b hb => by
      have := (h0w b hb).2
      simp [World.shut, Array.getElem?_setIfInBounds_ne (Ne.symm this)]⟩
    have hT : TShut c (w.shut c 0 0 false).heap.size (t ++ MemOp.ofEvents k g1.frame.fn g1.frame.place #[⟨.obj c, false, true⟩, ⟨.obj c, true, true⟩]) := by
      have hcl := lt_of_get h.op
      have h1 := h.tr.own1 (Nat.le_refl _) (fn := g1.frame.fn) (pos := g1.frame.place) (es := #[⟨.obj c, false, true⟩]) (fun e he => by
        have : e = ⟨.obj c, false, true⟩ := by simpa using he
        rw [this]; exact ⟨.inr (.inl ⟨c, rfl⟩), hcl⟩)
      have h2 := h1.shut (c := c) hcl (y := { g := k, fn := g1.frame.fn, pos := g1.frame.place, act := .close c }) rfl rfl
      rw [hsize]
      have e : t ++ MemOp.ofEvents k g1.frame.fn g1.frame.place #[⟨.obj c, false, true⟩, ⟨.obj c, true, true⟩] = (t ++ MemOp.ofEvents k g1.frame.fn g1.frame.place #[⟨.obj c, false, true⟩]) ++ #[{ g := k, fn := g1.frame.fn, pos := g1.frame.place, act := .close c }] := by
        rw [ofEvents_eq, ofEvents_eq, Array.append_assoc]; simp [MemAct.ofEvent]
      rw [e]; exact h2
    have hL : Lvs P ((gs.map (woken P g1 g₂ (w.shut c 0 0 false))).setIfInBounds k g₂) (ConcN.upd q k nq) := by
      intro j x hj hx
      by_cases e : k = j
      · subst e
        rw [Array.getElem?_setIfInBounds_self_of_lt (by simpa using hltk)] at hx
        obtain rfl := Option.some.inj hx
        rw [ConcN.upd_same]; exact hq
      · rw [Array.getElem?_setIfInBounds_ne e, Array.getElem?_map] at hx
        obtain ⟨y, hy, rfl⟩ := Option.map_eq_some_iff.1 hx
        have hqj := h.lv j y hj (Ne.symm e) hy
        rw [woken_quits hqj, ConcN.upd_ne q nq (Ne.symm e)]; exact hqj
    have h0' : ((gs.map (woken P g1 g₂ (w.shut c 0 0 false))).setIfInBounds k g₂)[0]? = some (a.again (w.shut c 0 0 false)) := by
      rw [Array.getElem?_setIfInBounds_ne (by omega), Array.getElem?_map, h.h0]
      simp [hwk]
    rcases h.st with ⟨n, rfl, hs⟩ | ⟨rfl, rfl⟩
    · have ha : a.status = .running := (show Sit P c z gR (n + 1) a from .inl ⟨n, rfl, hs⟩).running hR (by omega)
      rw [again_running _ (.inl ha)] at h0'
      exact three_phase hR hfin _ n _ a _ sl _ _ (Nat.le_refl _) h0' hL hr0 hsc (.inl hs) hT
    · rw [again_recv_closed hsc] at h0'
      exact three_phase hR hfin _ 0 _ _ _ sl _ _ (Nat.le_refl _) h0' hL hr0 hsc (.inr ⟨rfl, rfl, fun w => stepG_same rfl rfl rfl w⟩) hT
  | @step F1 g1 w1 hrun1 hex hnext IH =>
    intro m gs a w sl t q h
    refine two_core hR hk hrun1 (fun m gs a w sl t q h => ?_) _ m gs a w sl t q rfl h
    obtain ⟨g', w', es, hgo, hG⟩ := hex w h.r1
    have hrun := runT_crowd_go (P := P) (sl := sl) (i := k) h.h1 (by rw [hk0]; exact hgo)
    refine ⟨_, _, hrun, ?_⟩
    have hltk : k < gs.size := (Array.getElem?_eq_some_iff.1 h.h1).1
    have hcl : c < w.heap.size := lt_of_get h.op
    have hcm : ¬ F1.may w.heap.size c := by
      rintro (hm | hm)
      · exact (h.dj c (.inl hm)).2.1 rfl
      · omega
    have hop : OpenCh w' c := by
      show w'.heap[c]? = _
      rw [hG.diff.block c hcm]; exact h.op
    refine IH w h.r1 g' w' es hgo m _ a w' sl _ q ⟨?_, ?_, fun j x hj hjk hx => ?_, ?_, Rely.refl _ _, hop, fun b hb => ?_, h.st, ?_⟩
    · rw [Array.getElem?_setIfInBounds_ne (by omega), Array.getElem?_map, h.h0]
      simp [h.st.woken hR hop]
    · rw [Array.getElem?_setIfInBounds_self_of_lt (by simpa using hltk)]
    · rw [Array.getElem?_setIfInBounds_ne (Ne.symm hjk), Array.getElem?_map] at hx
      obtain ⟨y, hy, rfl⟩ := Option.map_eq_some_iff.1 hx
      have hqj := h.lv j y hj hjk hy
      rw [woken_quits hqj]; exact hqj
    · refine h.r0.trans' ⟨hG.diff.os, hG.diff.output, hG.diff.tape, hG.diff.size, fun b hb => hG.diff.block b ?_⟩
      rintro (hm | hm)
      · exact (h.dj b (.inl hm)).2.2 hb
      · have h1 := (h0w b hb).1
        have h2 := h.r0.size
        omega
    · rcases all_grow.1 hb with hb | ⟨h1, h2⟩
      · obtain ⟨h1, h2, h3⟩ := h.dj b hb
        exact ⟨Nat.lt_of_lt_of_le h1 hG.diff.size, h2, h3⟩
      · refine ⟨h2, by omega, fun hF => ?_⟩
        have h3 := (h0w b hF).1
        have h4 := h.r0.size
        omega
    · exact h.tr.own1 hG.diff.size fun e he => ⟨evok_kind (hG.evs e he).1, (hG.evs e he).2⟩

/-- Goroutine 0 starts a child that closes the channel, and waits for that. -/
theorem w1_fork {F : Foot} {g g' child gR : Goroutine} {w : World} {n : Nat} (hg : g.status = .running) (hsp : ∀ w₁, AtRel w w₁ → stepG P true g w₁ = .spawn g' child w₁ #[]) (hop : OpenCh w c)
    (hs : Slides P true n g' gR) (hR : AtRecv' P c z gR) (hchild : Walk P false (StopClose P c) ⟨fun _ => False, fun _ => False⟩ child w)
    {F0 : Foot} (h0w : ∀ b, F0.all b → b < w.heap.size ∧ b ≠ c) (hfin : ∀ w₂, Rely F0 w w₂ → W1 P Post F0 (Go.Conc.served (core gR) (.tuple #[z, .bool false])) w₂) : W1 P Post F g w :=
  w1_intro hg fun gs w₁ sl t q h0 hr hL hT => by
    have hlt : 0 < gs.size := (Array.getElem?_eq_some_iff.1 h0).1
    have hrun := runT_crowd_spawn (P := P) (sl := sl) (i := 0) h0 (show stepG P (0 == 0) g w₁ = _ from hsp w₁ hr)
    refine .inr ⟨_, _, hrun, ?_⟩
    have hheap : w₁.heap = w.heap := atRel_heap hr
    have hop1 : OpenCh w₁ c := by show w₁.heap[c]? = _; rw [hheap]; exact hop
    have hcl : c < w₁.heap.size := lt_of_get hop1
    have htr := hT.two (k := gs.size) (x := { g := 0, fn := g.frame.fn, pos := g.frame.place, act := .go gs.size }) (y := { g := gs.size, fn := child.frame.fn, pos := g.frame.place, act := .start }) rfl rfl rfl rfl
    have e : t ++ (((MemOp.ofEvents 0 g.frame.fn g.frame.place #[]).push { g := 0, fn := g.frame.fn, pos := g.frame.place, act := .go gs.size }).push { g := gs.size, fn := child.frame.fn, pos := g.frame.place, act := .start }) = (t ++ #[{ g := 0, fn := g.frame.fn, pos := g.frame.place, act := .go gs.size }]) ++ #[{ g := gs.size, fn := child.frame.fn, pos := g.frame.place, act := .start }] := by
      rw [ofEvents_none]; apply Array.ext'; simp
    rw [e]
    refine two_phase (k := gs.size) hR hfin h0w hlt hchild (n + 1) _ g' w₁ sl _ q ⟨?_, ?_, fun j x hj hjk hx => ?_, atRel_rely hr F0, atRel_rely hr _, hop1, fun b hb => (by rcases hb with hb | hb <;> exact hb.elim), .inl ⟨n, rfl, hs⟩, htr⟩
    · rw [Array.getElem?_push]; simp [hlt, Nat.ne_of_lt hlt]
    · rw [Array.getElem?_push]; simp
    · rw [Array.getElem?_push] at hx
      simp only [Array.size_setIfInBounds, hjk, if_false] at hx
      rw [Array.getElem?_setIfInBounds_ne (by omega)] at hx
      exact hL j x hj hx

theorem wn_fork {w0 : World} {F : Foot} {g g' child gR : Goroutine} {w : World} {n : Nat} (hg : g.status = .running) (hsp : ∀ w₁, AtRel w w₁ → stepG P true g w₁ = .spawn g' child w₁ #[]) (hop : OpenCh w c)
    (hs : Slides P true n g' gR) (hR : AtRecv' P c z gR) (hchild : Walk P false (StopClose P c) ⟨fun _ => False, fun _ => False⟩ child w)
    {F0 : Foot} (h0w : ∀ b, F0.all b → b < w.heap.size ∧ b ≠ c) (hm : ∀ b, F0.mine b → F.mine b) (hr : F0.ro = F.ro) (hfin : ∀ w₂, Rely F0 w w₂ → Wn P Post w0 F0 (Go.Conc.served (core gR) (.tuple #[z, .bool false])) w₂) : Wn P Post w0 F g w :=
  fun hfix => w1_fork hg hsp hop hs hR hchild h0w fun w₂ r => hfin w₂ r (hfix.rely hm hr r)
end
end Go.Proofs.Evz

/-
  ENGINE 34. Single steps: one operation, a new channel, a go statement, a receive; a child's birth and its close.
-/
namespace Go.Proofs.Evz
open Go Go.Conc

/-- The frame below a goroutine's first. -/
def bot (P : Program) : Frame := { (default : Frame) with fn := P.funcs.size, defers := [], mode := .panicking [goexitEntry] }

section
variable {P : Program} {main : Bool} {W : Foot → Goroutine → World → Prop} {env : Env}

theorem born_step {f : FuncId} {fn : Func} {body : Code} {as ca : Array Value} (hf : P.funcs[f]? = some fn) (hn : (fn.name == "runtime.NumGoroutine") = false) (hb : fn.body = some body) (w : World) :
    stepG P false (born P { target := .fn (.func f) ca, args := as }) w = .go (G (Frame.enter P f (as ++ ca) .deferred) [bot P]) w #[] := by
  have h1 : ¬ fn.name = "runtime.NumGoroutine" := by simpa using hn
  simp [born, stepG, unwind, callDeferred, invoke, callFunc, hf, h1, hb, seen_none, GStep.after, G, bot]

theorem quits_tail {b : Frame} {fn : Func} {T : Array Value} {todo : List Item} (hk : b.kind = .deferred) (hf : P.funcs[b.fn]? = some fn) (hr : fn.results = #[]) : QuitsIn P 2 (G { b.at ⟨T, []⟩ todo with mode := .returning } [bot P]) := by
  refine .inr ⟨rfl, G (bot P) [], fun w => ?_, .inr ⟨rfl, { G (bot P) [] with status := .finished }, fun w => ?_, rfl⟩⟩
  · have h1 := results_none hr T P w
    have h2 := events_results_none (P := P) (w := w) hr T #[]
    simp [G, stepG, unwind, doReturn, Frame.at, hk, hf, bot, GStep.after, h1, h2, seen_none, goexitEntry]
  · simp [G, stepG, unwind, bot, goexitEntry, Frame.catches]
    rfl

theorem stop_close {c : Nat} {F : Foot} {b : Frame} {fn : Func} {T : Array Value} {todo : List Item} {ats : Array TypeId} {ty : TypeId} {cs : Array Bool} {w : World} (hk : b.kind = .deferred) (hf : P.funcs[b.fn]? = some fn) (hr : fn.results = #[]) :
    StopClose P c F (G { b.at ⟨T, [{ target := .builtin .close ats ty cs, args := #[.chan (some c)] }]⟩ todo with mode := .returning } [bot P]) w := by
  refine ⟨rfl, rfl, fun ho => ⟨G { b.at ⟨T, []⟩ todo with mode := .returning } [bot P], 2, ?_, quits_tail hk hf hr⟩⟩
  have ho' : w.heap[c]? = some (.chan 0 #[] false 0 0 false) := ho
  have h1 : (builtin .close ats ty cs #[.chan (some c)]).run P w = .ok (.value (.tuple #[])) (w.shut c 0 0 false) := by
    simp [go_sem, run_close_open _ _ ho', World.shut]
  have h2 : (builtin .close ats ty cs #[.chan (some c)]).events P w #[] = #[⟨.obj c, false, true⟩, ⟨.obj c, true, true⟩] := by
    simp [go_sem, events_close_open _ _ ho']
  have h3 : seen P b.fn #[⟨.obj c, false, true⟩, ⟨.obj c, true, true⟩] = #[⟨.obj c, false, true⟩, ⟨.obj c, true, true⟩] := by
    simp [seen]
  simp [G, stepG, unwind, callDeferred, Frame.at, GStep.after, invoke, h1, h2, h3]

/-- One operation that comes to a value. -/
theorem one_step (C : Closed P main W) (ok : EnvOk P env) {b : Frame} {a : Act} {k : List Item} {σ : Sub} {F : Foot} {w : World} {csf : RC → List Frame} {S : St} {ops : Array Oper} {i : Nat} {rest : List Nat} {o : Oper} {v : Value} {H' : AHeap} {nx' : Nat}
    (ho : ops[i]? = some o) (hg : o.guard = none) (heff : opF o.op env (fun x => opv x env S.tm S.nt) S.H S.nx = .val v H' nx') (hd : ∀ t, o.dst = some t → t < S.nt) (hR : Rel P env b σ S a F w csf)
    (hk : ∀ σ' a' F' w', Reach σ S.H S.nx F w σ' H' nx' F' w' → Rel P env b σ' ⟨putD o.dst S.tm v, S.nt, H', nx', S.df, S.rc⟩ a' F' w' csf → W F' (G (b.at a' (.inRegion ops rest :: k)) (csf S.rc)) w') :
    W F (G (b.at a (.inRegion ops (i :: rest) :: k)) (csf S.rc)) w := by
  refine step_op C ho (by unfold Region.wanted; rw [hg]) hR.kind fun w₁ r => ?_
  have hop := sat_opF (o := o) ok (hR.rely r).hr hR.rho
  rw [heff] at hop
  refine sat_mono _ hop ?_ (fun _ _ h => h.elim)
  rintro nxt w' ⟨r', hx, σ', ha, hn, rfl, hsc, hhr, hke⟩
  have R2 := ((hR.rely r).ext ha hn hhr).put (v := v) hsc hd
  have key : W (F.grow w₁.heap.size w'.heap.size) (G (b.at (a.put o.dst (ren σ' v)) (.inRegion ops rest :: k)) (csf S.rc)) w' := hk σ' _ _ w' ((Reach.rely r).trans ⟨ha, hn, hke⟩) R2
  rcases hx with rfl | ⟨rfl, hx⟩
  · exact key
  · rw [hx] at key; exact key

/-- A new channel without room. -/
theorem sat_makeChan {t el : TypeId} {dir : ChanDir} {i : TypeInfo} {F : Foot} {n : Nat} {w : World} {Q : Value → World → Prop} {E : Value → World → Prop} (h1 : P.underlying t = some (.chan dir el)) (h2 : P.info? el = some i)
    (hq : Q (.chan (some w.heap.size)) { w with heap := w.heap.push (.chan 0 #[] false 0 0 false) }) : Sat P F n (Instr.makeChan t (.int .i64 0)) w Q E := by
  refine sat_bind' (sat_pure (sat_bind' (sat_und h1 ?_)))
  refine sat_bind' (sat_info h2 ?_)
  show Sat P F n ((if ((0 : Int) < 0 ∨ (0 : Int) > IntKind.i64.max ∨ (i.bytes : Int) * 0 > 2 ^ 48 - 112) then runtimePanic (.plain "makechan: size out of range") else pure PUnit.unit) >>= fun _ => newObj (.chan 0 #[] false 0 0 false) >>= fun r => pure (Value.chan (some r))) w Q E
  rw [if_neg (by simp [IntKind.max]; decide)]
  exact hq

/-- A channel of one's own, open and empty. -/
structure ChIs (σ : Sub) (H : AHeap) (F : Foot) (w : World) (B : Nat) : Prop where
  mine : F.mine B
  nimg : ¬ Img σ H B
  heap : OpenCh w B

theorem ChIs.reach {σ σ' : Sub} {H H' : AHeap} {nx nx' : Nat} {F F' : Foot} {w w' : World} {B : Nat} (h : ChIs σ H F w B) (r : Reach σ H nx F w σ' H' nx' F' w') : ChIs σ' H' F' w' B := by
  obtain ⟨h1, h2⟩ := r.keeps.kept B h.mine h.nimg
  exact ⟨r.keeps.mine B h.mine, h1, by show w'.heap[B]? = _; rw [h2]; exact h.heap⟩

/-- A channel is made: a place of its own. -/
theorem mk_step (C : Closed P main W) {b : Frame} {a : Act} {k : List Item} {σ : Sub} {F : Foot} {w : World} {csf : RC → List Frame} {S : St} {ops : Array Oper} {i : Nat} {rest : List Nat} {o : Oper} {t el : TypeId} {dir : ChanDir} {ti : TypeInfo} {d : Tmp}
    (ho : ops[i]? = some o) (hg : o.guard = none) (hop : o.op = .makeChan t (.const (.int .i64 0))) (h1 : P.underlying t = some (.chan dir el)) (h2 : P.info? el = some ti) (hdst : o.dst = some d) (hd : d < S.nt) (htop : S.nx < 2 ^ HD) (hR : Rel P env b σ S a F w csf)
    (hk : ∀ σ' a' F' w', Reach σ S.H S.nx F w σ' S.H (S.nx + 1) F' w' → Rel P env b σ' ⟨tput S.tm d (.chan (some S.nx)), S.nt, S.H, S.nx + 1, S.df, S.rc⟩ a' F' w' csf → w.heap.size ≤ (σ' S.nx).blk → ChIs σ' S.H F' w' (σ' S.nx).blk →
      W F' (G (b.at a' (.inRegion ops rest :: k)) (csf S.rc)) w') :
    W F (G (b.at a (.inRegion ops (i :: rest) :: k)) (csf S.rc)) w := by
  refine step_op C ho (by unfold Region.wanted; rw [hg]) hR.kind fun w₁ r => ?_
  have e : execOp a.eval o = (Instr.makeChan t (.int .i64 0) >>= fun v => pure (Next.value v)) := by
    unfold execOp
    rw [hop]
    rfl
  rw [e]
  refine sat_bind' (sat_makeChan h1 h2 (sat_pure ?_))
  let w' : World := { w₁ with heap := w₁.heap.push (.chan 0 #[] false 0 0 false) }
  let F' := F.grow w₁.heap.size w'.heap.size
  let σ' : Sub := upd σ S.nx ⟨w₁.heap.size, 0, 0⟩
  have hσ : σ' S.nx = ⟨w₁.heap.size, 0, 0⟩ := upd_at _ _ _
  have hsz : w'.heap.size = w₁.heap.size + 1 := by simp [w']
  have R1 := hR.rely r
  have hold : ∀ x, x < w₁.heap.size → w'.heap[x]? = w₁.heap[x]? := fun x hx => by simp [w', Array.getElem?_push, Nat.ne_of_lt hx]
  have hnew : w'.heap[w₁.heap.size]? = some (.chan 0 #[] false 0 0 false) := by simp [w']
  have hfm : F'.mine w₁.heap.size := .inr ⟨Nat.le_refl _, by omega⟩
  have hr2 : HR P env.G σ S.H S.nx F' w' := R1.hr.world (fun x hx => hold x (hx.elim (R1.hr.mine x) fun h => (R1.hr.ro x h).1)) (fun _ h => .inl h) rfl (fun x hx => by rcases hx with hx | hx; exact Nat.lt_of_lt_of_le (R1.hr.mine x hx) (by omega); exact hx.2) (by omega)
    (fun x hx hm => by rcases hm with hm | hm; exact (R1.hr.ro x hx).2 hm; have := (R1.hr.ro x hx).1; omega)
  have himg : ∀ x, Img σ S.H x → x < w₁.heap.size := by
    rintro x ⟨id, o', hid, ho', rfl⟩
    rcases (R1.hr.live id o' hid ho').2.mineRo with h | h
    · exact R1.hr.mine _ h
    · exact (R1.hr.ro _ h).1
  have hk1 : Keeps σ S.H F w₁ σ S.H F' w' := ⟨by omega, fun _ h => .inl h, rfl, fun x hx hi => ⟨hi, hold x (R1.hr.mine x hx)⟩⟩
  have hr3 : HR P env.G σ' S.H (S.nx + 1) F' w' := hr2.ext (upd_agree _ _ _) (Nat.le_succ _) htop
  have hk3 : Keeps σ S.H F w₁ σ' S.H F' w' := hk1.trans (Keeps.ext hr2 (upd_agree _ _ _))
  have hre : Reach σ S.H S.nx F w σ' S.H (S.nx + 1) F' w' := (Reach.rely r).trans ⟨upd_agree _ _ _, Nat.le_succ _, hk3⟩
  have R2 := (R1.ext (upd_agree σ S.nx ⟨w₁.heap.size, 0, 0⟩) (Nat.le_succ _) hr3).put (d := some d) (v := .chan (some S.nx)) (fun σ1 σ2 hs => by simp [hs _ (Nat.lt_succ_self _)]) (fun t e => by cases e; exact hd)
  show W F' (G (b.at (a.put o.dst (.chan (some w₁.heap.size))) (.inRegion ops rest :: k)) (csf S.rc)) w'
  have hval : ren σ' (.chan (some S.nx)) = .chan (some w₁.heap.size) := by rw [ren_chan, hσ]
  have hb : (σ' S.nx).blk = w₁.heap.size := by rw [hσ]
  rw [hdst, ← hval]
  refine hk σ' _ F' w' hre R2 (by rw [hb]; exact r.size) ?_
  rw [hb]
  refine ⟨hfm, ?_, hnew⟩
  rintro ⟨id, o', hid, ho', e'⟩
  have hlt := (R1.hr.live id o' hid ho').1
  have : σ' id = σ id := (upd_agree σ S.nx _ id hlt).symm
  rw [this] at e'
  have := himg _ ⟨id, o', hid, ho', rfl⟩
  omega

theorem Rel.tmEq {b : Frame} {a : Act} {σ : Sub} {F : Foot} {w : World} {csf : RC → List Frame} {tm tm' : ATmp} {nt : Nat} {H : AHeap} {nx : Nat} {df : List Deferred} {rc : RC} (h : Rel P env b σ ⟨tm, nt, H, nx, df, rc⟩ a F w csf) (e : ∀ t, t < nt → tget tm' t = tget tm t) :
    Rel P env b σ ⟨tm', nt, H, nx, df, rc⟩ a F w csf :=
  ⟨⟨h.size, h.nt, h.df, h.dfs, h.kind, h.hr, h.rc⟩, fun t ht => by
    show a.tmps[t]? = some (ren σ (tget tm' t)) ∧ Sc nx (tget tm' t)
    rw [e t ht]; exact h.tmp t ht⟩

/-- A footprint without one block. -/
def Foot.less (F : Foot) (B : Nat) : Foot := { mine := fun b => F.mine b ∧ b ≠ B, ro := F.ro }
theorem wn_less {Post : Value → World → Prop} {w0 w : World} {F : Foot} {B : Nat} {g : Goroutine} (h : Wn P Post w0 (F.less B) g w) : Wn P Post w0 F g w := fun hf => h ⟨fun b hb => ⟨(hf.ro b hb).1, fun hm => (hf.ro b hb).2.1 hm.1, (hf.ro b hb).2.2⟩, hf.os, hf.output, hf.tape⟩
theorem HR.less {σ : Sub} {H : AHeap} {nx : Nat} {F : Foot} {w : World} {G : Nat} (h : HR P G σ H nx F w) {B : Nat} (hB : ¬ Img σ H B) : HR P G σ H nx (F.less B) w := by
  refine ⟨fun id o hid ho => ?_, h.inj, h.top, h.glob, fun b hb => h.mine b hb.1, fun b hb => ⟨(h.ro b hb).1, fun hm => (h.ro b hb).2 hm.1⟩⟩
  obtain ⟨h1, h2⟩ := h.live id o hid ho
  refine ⟨h1, ?_⟩
  have hne : (σ id).blk ≠ B := fun e => hB ⟨id, o, hid, ho, e⟩
  cases o with
  | cells t cs grown ro =>
    obtain ⟨c, fr, g1, g2, g3, g4, g5, g6, g7⟩ := h2
    refine ⟨c, fr, g1, g2, g3, g4, g5, g6, ?_⟩
    cases ro
    · exact ⟨g7, hne⟩
    · exact g7
  | map es clock =>
    obtain ⟨g1, g2, g3⟩ := h2
    exact ⟨g1, g2, g3, hne⟩
theorem Rel.less {b : Frame} {a : Act} {σ : Sub} {F : Foot} {w : World} {csf : RC → List Frame} {S : St} (h : Rel P env b σ S a F w csf) {B : Nat} (hB : ¬ Img σ S.H B) : Rel P env b σ S a (F.less B) w csf :=
  ⟨⟨h.size, h.nt, h.df, h.dfs, h.kind, h.hr.less hB, h.rc⟩, h.tmp⟩

/-- One step of a slide. -/
theorem Slides.cons {n : Nat} {g g1 g' : Goroutine} (hr : g.status = .running) (h : ∀ w, stepG P main g w = .go g1 w) (hs : Slides P main n g1 g') : Slides P main (n + 1) g g' := ⟨hr, g1, h, hs⟩
theorem Slides.nil {g : Goroutine} : Slides P main 0 g g := rfl

/-- An operation that yields a value in every world, touching nothing. -/
theorem slide_op {b : Frame} {a : Act} {k : List Item} {cs : List Frame} {ops : Array Oper} {i : Nat} {rest : List Nat} {o : Oper} {v : Value} (ho : ops[i]? = some o) (hg : o.guard = none) (hk : b.kind ≠ .early) (he : execOp a.eval o = pure (.value v)) (w : World) :
    stepG P main (G (b.at a (.inRegion ops (i :: rest) :: k)) cs) w = .go (G (b.at (a.put o.dst v) (.inRegion ops rest :: k)) cs) w := by
  rw [stepG_value (v := v) (w' := w) ho (by unfold Region.wanted; rw [hg]) hk (by rw [he]; rfl)]
  unfold listed
  rw [he]
  have : (pure (Next.value v) : Sem Next).events P w #[] = #[] := rfl
  rw [this, seen_none]

theorem go_step {b : Frame} {a : Act} {k : List Item} {cs : List Frame} {ops : Array Oper} {i : Nat} {rest : List Nat} {o : Oper} {d : Deferred} {f : Fn} {ca : Array Value} (ho : ops[i]? = some o) (hg : o.guard = none) (hk : b.kind ≠ .early) (he : execOp a.eval o = pure (.spawn d)) (hd : d.target = .fn f ca) (w : World) :
    stepG P main (G (b.at a (.inRegion ops (i :: rest) :: k)) cs) w = .spawn (G (b.at (a.put o.dst undef) (.inRegion ops rest :: k)) cs) (born P d) w #[] := by
  rw [stepG_spawn (w' := w) ho (by unfold Region.wanted; rw [hg]) hk (by rw [he]; rfl) hd]
  unfold listed
  rw [he]
  have : (pure (Next.spawn d) : Sem Next).events P w #[] = #[] := rfl
  rw [this, seen_none]

theorem recv_at {b : Frame} {a : Act} {k : List Item} {cs : List Frame} {ops : Array Oper} {i : Nat} {rest : List Nat} {o : Oper} {c : Nat} {z : Value} (ho : ops[i]? = some o) (hg : o.guard = none) (hk : b.kind ≠ .early)
    (hr : ∀ w, (execOp a.eval o).run P w = .ok (.comm #[rcase c z] true (.recv true)) w) (he : ∀ w, (execOp a.eval o).events P w #[] = #[]) :
    AtRecv' P c z (G (b.at a (.inRegion ops (i :: rest) :: k)) cs) := by
  refine ⟨rfl, fun w _ => ?_⟩
  rw [stepG_comm (main := true) ho (by unfold Region.wanted; rw [hg]) hk (hr w)]
  unfold listed
  rw [he w, seen_none]
  rfl
end
end Go.Proofs.Evz

/-
  ENGINE 35. Pieces of a function's code, run one by one.
-/
namespace Go.Proofs.Evz
open Go Go.Conc

def cL : Code → Code
  | .seq a _ => a
  | c => c
def cR : Code → Code
  | .seq _ b => b
  | c => c
def cI : Code → Code
  | .block _ c => c
  | .loop c => c
  | .scope c => c
  | c => c
def rOps : Code → Array Oper
  | .region _ o _ => o
  | _ => #[]
def rId : Code → Nat
  | .region i _ _ => i
  | _ => 0

def outSt : Option Res → St
  | some (.out _ S) => S
  | _ => ⟨.nil, 0, .nil, 0, [], .no⟩
def isRetB : Option Res → Bool
  | some (.out .ret _) => true
  | _ => false
def isNormB : Option Res → Bool
  | some (.out .normal _) => true
  | _ => false
def isExitB (i : Nat) : Option Res → Bool
  | some (.out (.exit j) _) => Nat.beq j i
  | _ => false
theorem isRetB_eq {x : Option Res} (h : isRetB x = true) : x = some (.out .ret (outSt x)) := by
  rcases x with _ | ⟨_ | _ | _ | _, _⟩ | _ | _ <;> first | rfl | cases h
theorem isNormB_eq {x : Option Res} (h : isNormB x = true) : x = some (.out .normal (outSt x)) := by
  rcases x with _ | ⟨_ | _ | _ | _, _⟩ | _ | _ <;> first | rfl | cases h
theorem isExitB_eq {i : Nat} {x : Option Res} (h : isExitB i x = true) : x = some (.out (.exit i) (outSt x)) := by
  rcases x with _ | ⟨_ | j | _ | _, _⟩ | _ | _ <;> first | (cases h; done) | (rw [Nat.eq_of_beq_eq_true h]; rfl)

/-- One deferred close of a channel. -/
def isClose (id : Nat) : List Deferred → Bool
  | [{ target := .builtin .close _ _ _, args := ⟨[.chan (some r)]⟩ }] => Nat.beq r id
  | _ => false
theorem isClose_eq {id : Nat} {df : List Deferred} (h : isClose id df = true) : ∃ ats ty cs, df = [{ target := .builtin .close ats ty cs, args := #[.chan (some id)] }] := by
  unfold isClose at h
  split at h
  · rename_i r
    rw [Nat.eq_of_beq_eq_true h]
    exact ⟨_, _, _, rfl⟩
  · cases h

def KN : Con := fun _ _ _ _ => none

section
variable {P : Program} {env : Env} {main : Bool} {W : Foot → Goroutine → World → Prop}

theorem conOk_none : ConOk P env W KN := by
  intro f vs H nx v H' nx' h; cases h

/-- A function is entered. -/
theorem enter_rel (ok : EnvOk P env) {f : FuncId} {fn : Func} {body : Code} {args : List Value} {H : AHeap} {nx : Nat} {rc : RC} (hfn : env.fn f = some fn) (hbody : fn.body = some body) (hle : args.length + (fn.ntmps - args.length) ≤ 256)
    {kind : CallKind} {σ : Sub} {F : Foot} {w : World} {csf : RC → List Frame} (hk : kind = .normal ∨ kind = .deferred) (hh : HR P env.G σ H nx F w) (hs : ∀ v ∈ args, Sc nx v) (hrc : RcOk kind σ nx csf rc) :
    ∃ a, Frame.enter P f (args.map (ren σ)).toArray kind = (baseK f kind).at a [.code body] ∧ Rel P env (baseK f kind) σ ⟨argTm args 0 .nil, args.length + (fn.ntmps - args.length), H, nx, [], rc⟩ a F w csf := by
  obtain ⟨hf, hn⟩ := ok.fn f fn hfn
  have hsize : (args.map (ren σ)).toArray.size = args.length := by simp
  let S1 : St := ⟨argTm args 0 .nil, args.length + (fn.ntmps - args.length), H, nx, [], rc⟩
  refine ⟨_, enter_atK _ hf hbody, ?_⟩
  refine ⟨⟨by simp, hle, rfl, by simp, ?_, hh, hrc⟩, fun t ht => ?_⟩
  · rcases hk with rfl | rfl <;> simp [baseK]
  · have ht' : t < args.length + (fn.ntmps - args.length) := ht
    show _ ∧ Sc nx (tget (argTm args 0 .nil) t)
    have e : tget S1.tm t = if 0 ≤ t ∧ t < 0 + args.length then args.getD (t - 0) undef else tget .nil t := argTm_get args 0 .nil t (by omega) (by omega)
    by_cases hlt : t < args.length
    · rw [if_pos (by omega)] at e
      have e2 : tget S1.tm t = args[t] := by rw [e]; simp [hlt]
      refine ⟨?_, ?_⟩
      · rw [show tget (argTm args 0 .nil) t = args[t] from e2]
        show ((args.map (ren σ)).toArray ++ _)[t]? = _
        rw [Array.getElem?_append_left (by simpa using hlt)]
        simp [hlt]
      · show Sc nx (tget S1.tm t)
        rw [e2]; exact hs _ (List.getElem_mem _)
    · rw [if_neg (by omega)] at e
      have e2 : tget S1.tm t = undef := e
      refine ⟨?_, ?_⟩
      · rw [show tget (argTm args 0 .nil) t = undef from e2, ren_undef]
        show ((args.map (ren σ)).toArray ++ _)[t]? = _
        rw [Array.getElem?_append_right (by rw [hsize]; omega), hsize, Array.getElem?_replicate, if_pos (by omega)]
      · show Sc nx (tget S1.tm t)
        rw [e2]; exact sc_undef _

theorem rc_bot {σ : Sub} {nx : Nat} : RcOk .deferred σ nx (fun _ => [bot P]) .no := fun fr hk => by simp [tryRecover, hk, bot, goexitEntry]

/-- The substitution of a child: two channels. -/
def sub2 (G c e : Nat) : Sub := fun i => if i < G then ⟨i, 0, 0⟩ else if i = G then ⟨c, 0, 0⟩ else ⟨e, 0, 0⟩

/-- A child that runs to its return, its one deferred call the close of the channel it sends to. -/
theorem child_walk (ok : EnvOk P env) {c e : Nat} {f : FuncId} {fn : Func} {body : Code} {s : Value} (hfn : env.fn f = some fn) (hbody : fn.body = some body) (hres : fn.results = #[]) (hle : 3 + (fn.ntmps - 3) ≤ 256) (hG : env.G + 2 ≤ 2 ^ HD) (hs : Closedv s)
    {n : Nat} (hev : isRetB (ev env KN n (.code body) ⟨argTm [s, .chan (some env.G), .chan (some (env.G + 1))] 0 .nil, 3 + (fn.ntmps - 3), .nil, env.G + 2, [], .no⟩) = true)
    (hdf : isClose env.G (outSt (ev env KN n (.code body) ⟨argTm [s, .chan (some env.G), .chan (some (env.G + 1))] 0 .nil, 3 + (fn.ntmps - 3), .nil, env.G + 2, [], .no⟩)).df = true) (w : World) :
    Walk P false (StopClose P c) ⟨fun _ => False, fun _ => False⟩ (born P { target := .fn (.func f) #[], args := #[s, .chan (some c), .chan (some e)] }) w := by
  have C := walk_closed P false (StopClose P c)
  have snd := (sound C ok (conOk_none (W := Walk P false (StopClose P c))) n).code
  obtain ⟨hf, hn⟩ := ok.fn f fn hfn
  refine C.step _ _ _ rfl fun w₁ r => ⟨_, _, _, born_step hf hn hbody w₁, Guar.none _ _, ?_⟩
  rw [grow_self]
  have hr : HR P env.G (sub2 env.G c e) .nil (env.G + 2) ⟨fun _ => False, fun _ => False⟩ w₁ :=
    ⟨fun id o _ ho => (by cases ho), fun id id' o o' _ _ ho => (by cases ho), hG, ⟨by omega, fun g hg => by simp [sub2, hg]⟩, fun _ h => h.elim, fun _ h => h.elim⟩
  have hargs : #[s, Value.chan (some c), Value.chan (some e)] ++ #[] = ([s, .chan (some env.G), .chan (some (env.G + 1))].map (ren (sub2 env.G c e))).toArray := by
    rw [Array.append_empty]
    show _ = #[ren (sub2 env.G c e) s, ren (sub2 env.G c e) (.chan (some env.G)), ren (sub2 env.G c e) (.chan (some (env.G + 1)))]
    rw [hs _, ren_chan, ren_chan]
    have e1 : (sub2 env.G c e env.G).blk = c := by simp [sub2]
    have e2 : (sub2 env.G c e (env.G + 1)).blk = e := by
      unfold sub2; rw [if_neg (by omega), if_neg (by omega)]
    rw [e1, e2]
  rw [hargs]
  obtain ⟨a, ha, hR⟩ := enter_rel ok (args := [s, .chan (some env.G), .chan (some (env.G + 1))]) hfn hbody hle (kind := .deferred) (.inr rfl) hr (fun v hv => by
    simp only [List.mem_cons, List.not_mem_nil, or_false] at hv
    rcases hv with rfl | rfl | rfl
    · exact hs.sc _
    · exact fun σ1 σ2 h => by simp [h env.G (by omega)]
    · exact fun σ1 σ2 h => by simp [h (env.G + 1) (by omega)]) (rc_bot (P := P))
  rw [ha]
  refine snd _ _ _ _ (isRetB_eq hev) _ a [] _ _ w₁ (fun _ => [bot P]) hR fun σ' a' F' w' hre R' todo => ?_
  obtain ⟨ats, ty, cs, hd⟩ := isClose_eq hdf
  have hdef : a'.defers = [{ target := .builtin .close ats ty cs, args := #[.chan (some c)] }] := by
    rw [R'.df, hd]
    have hag := hre.agree env.G (show env.G < env.G + 2 by omega)
    simp [renD, renT, ← hag, sub2]
  have ea : a' = ⟨a'.tmps, [{ target := .builtin .close ats ty cs, args := #[.chan (some c)] }]⟩ := by rw [← hdef]
  rw [ea]
  exact .stop fun w₂ _ => stop_close rfl hf hres
end
end Go.Proofs.Evz

/-
  ENGINE M. A call run over a small heap serves as a contract over every larger one.
-/
namespace Go.Proofs.Evz
open Go Go.Conc

/-! ### ids renamed -/
def rnL (f : Value → Option Value) : List Value → Option (List Value)
  | [] => some []
  | v :: vs => match f v, rnL f vs with
    | some a, some b => some (a :: b)
    | _, _ => none
/-- A value with other ids. -/
def rnK : Nat → (Nat → Nat) → Value → Option Value
  | _, _, .bool b => some (.bool b)
  | _, _, .int k n => some (.int k n)
  | _, _, .string s => some (.string s)
  | _, _, .pointer none => some (.pointer none)
  | _, _, .slice none l c => some (.slice none l c)
  | _, _, .map none => some (.map none)
  | _, _, .chan none => some (.chan none)
  | _, _, .nilFunc => some .nilFunc
  | _, _, .nilIface => some .nilIface
  | _, φ, .pointer (some a) => some (.pointer (some ⟨φ a.block, a.off, none⟩))
  | _, φ, .slice (some a) l c => some (.slice (some ⟨φ a.block, a.off, none⟩) l c)
  | _, φ, .map (some r) => some (.map (some (φ r)))
  | _, φ, .chan (some r) => some (.chan (some (φ r)))
  | d + 1, φ, .agg cs => match rnL (rnK d φ) cs.toList with
    | some l => some (.agg ⟨l⟩)
    | none => none
  | d + 1, φ, .tuple cs => match rnL (rnK d φ) cs.toList with
    | some l => some (.tuple ⟨l⟩)
    | none => none
  | d + 1, φ, .iface t v => match rnK d φ v with
    | some v => some (.iface t v)
    | none => none
  | d + 1, φ, .func fn fi ca => match rnL (rnK d φ) fi.toList, rnL (rnK d φ) ca.toList with
    | some a, some b => some (.func fn ⟨a⟩ ⟨b⟩)
    | _, _ => none
  | _, _, _ => none

theorem rnL_ok {f : Value → Option Value} {g1 g2 : Value → Value} (h : ∀ v v', f v = some v' → g2 v' = g1 v) : ∀ {l l' : List Value}, rnL f l = some l' → l'.map g2 = l.map g1
  | [], l', e => by simp only [rnL, Option.some.injEq] at e; subst e; rfl
  | v :: vs, l', e => by
    simp only [rnL] at e
    split at e
    · rename_i a b h1 h2
      cases e
      rw [List.map_cons, List.map_cons, h v a h1, rnL_ok h h2]
    · cases e

theorem rnK_ok {φ : Nat → Nat} {σ1 σ2 : Sub} (hσ : ∀ i, σ2 (φ i) = σ1 i) : ∀ (d : Nat) (v v' : Value), rnK d φ v = some v' → ren σ2 v' = ren σ1 v := by
  have leaf : ∀ {d : Nat} {v v' : Value}, rnK d φ v = some v' → (match v with | .agg _ | .tuple _ | .iface .. | .func .. => False | _ => True) → ren σ2 v' = ren σ1 v := by
    intro d v v' e h
    cases v with
    | bool b => cases d <;> (simp only [rnK, Option.some.injEq] at e; subst e; simp)
    | int k n => cases d <;> (simp only [rnK, Option.some.injEq] at e; subst e; simp)
    | float k n => cases d <;> simp [rnK] at e
    | complex k n m => cases d <;> simp [rnK] at e
    | string s => cases d <;> (simp only [rnK, Option.some.injEq] at e; subst e; simp)
    | pointer a => cases a <;> cases d <;> (simp only [rnK, Option.some.injEq] at e; subst e; simp [renA, hσ])
    | slice a l c => cases a <;> cases d <;> (simp only [rnK, Option.some.injEq] at e; subst e; simp [renA, hσ])
    | map a => cases a <;> cases d <;> (simp only [rnK, Option.some.injEq] at e; subst e; simp [hσ])
    | chan a => cases a <;> cases d <;> (simp only [rnK, Option.some.injEq] at e; subst e; simp [hσ])
    | nilFunc => cases d <;> (simp only [rnK, Option.some.injEq] at e; subst e; simp)
    | nilIface => cases d <;> (simp only [rnK, Option.some.injEq] at e; subst e; simp)
    | agg => exact h.elim
    | tuple => exact h.elim
    | iface => exact h.elim
    | func => exact h.elim
  intro d
  induction d with
  | zero =>
    intro v v' e
    cases v with
    | agg => simp [rnK] at e
    | tuple => simp [rnK] at e
    | iface => simp [rnK] at e
    | func => simp [rnK] at e
    | _ => exact leaf e trivial
  | succ d ih =>
    intro v v' e
    cases v with
    | agg cs =>
      simp only [rnK] at e
      split at e
      · rename_i l h1
        cases e
        have := rnL_ok (g1 := ren σ1) (g2 := ren σ2) (fun v v' => ih v v') h1
        simp only [ren_agg, Value.agg.injEq]
        apply Array.toList_inj.1
        simpa using this
      · cases e
    | tuple cs =>
      simp only [rnK] at e
      split at e
      · rename_i l h1
        cases e
        have := rnL_ok (g1 := ren σ1) (g2 := ren σ2) (fun v v' => ih v v') h1
        simp only [ren_tuple, Value.tuple.injEq]
        apply Array.toList_inj.1
        simpa using this
      · cases e
    | iface t x =>
      simp only [rnK] at e
      split at e
      · rename_i x' h1
        cases e
        simp only [ren_iface, ih _ _ h1]
      · cases e
    | func fn fi ca =>
      simp only [rnK] at e
      split at e
      · rename_i a b h1 h2
        cases e
        have e1 := rnL_ok (g1 := ren σ1) (g2 := ren σ2) (fun v v' => ih v v') h1
        have e2 := rnL_ok (g1 := ren σ1) (g2 := ren σ2) (fun v v' => ih v v') h2
        simp only [ren_func, Value.func.injEq, true_and]
        constructor
        · apply Array.toList_inj.1; simpa using e1
        · apply Array.toList_inj.1; simpa using e2
      · cases e
    | _ => exact leaf e trivial

/-- .. what it hangs on. -/
theorem rnK_sc {φ : Nat → Nat} {n m d : Nat} {v v' : Value} (h : rnK d φ v = some v') (hv : Sc n v) (hφ : ∀ i, i < n → φ i < m) : Sc m v' := by
  intro σa σb hab
  rw [rnK_ok (σ1 := fun i => σa (φ i)) (fun _ => rfl) d v v' h, rnK_ok (σ1 := fun i => σb (φ i)) (fun _ => rfl) d v v' h]
  exact hv _ _ fun i hi => hab _ (hφ i hi)

/-! ### contracts -/
structure CR where
  f : FuncId
  vs : List Value
  Hs : AHeap
  ids : List Nat
  nxs : Nat
  nxs' : Nat
  v : Value
  L : List (Nat × TypeId × List Value × Bool)

def beqb : Bool → Bool → Bool
  | true, true => true
  | false, false => true
  | _, _ => false
theorem beqb_eq {a b : Bool} (h : beqb a b = true) : a = b := by cases a <;> cases b <;> first | rfl | cases h
def objEq : Option AObj → Option AObj → Bool
  | some (.cells t cs g r), some (.cells t' cs' g' r') => Nat.beq t t' && leq (veq 8) cs cs' && beqb g g' && beqb r r'
  | _, _ => false
theorem objEq_eq {a b : Option AObj} (h : objEq a b = true) : a = b ∧ ∃ o, a = some o := by
  unfold objEq at h
  split at h
  · rename_i t cs g r t' cs' g' r'
    simp only [Bool.and_eq_true] at h
    obtain ⟨⟨⟨h1, h2⟩, h3⟩, h4⟩ := h
    rw [Nat.eq_of_beq_eq_true h1, leq_ok (veq_ok 8) h2, beqb_eq h3, beqb_eq h4]
    exact ⟨rfl, _, rfl⟩
  · cases h

def CR.φ (c : CR) (nx r : Nat) : Nat := bif Nat.blt r c.nxs then r else Nat.add (Nat.sub r c.nxs) nx
noncomputable def adoptK (φ : Nat → Nat) : List (Nat × TypeId × List Value × Bool) → AHeap → Option AHeap
  | [], H => some H
  | (r, t, cs, g) :: l, H => match rnL (rnK 8 φ) cs with
    | some cs' => adoptK φ l (H.put (φ r) (some (.cells t cs' g false)))
    | none => none
noncomputable def crK (c : CR) : Con := fun f vs H nx =>
  bif Nat.beq f c.f && leq (veq 8) vs c.vs && Nat.ble c.nxs nx && Nat.ble (nx + (c.nxs' - c.nxs)) (2 ^ HD) && c.ids.all (fun i => objEq (c.Hs.at i) (H.at i)) then
    match rnK 8 (c.φ nx) c.v, adoptK (c.φ nx) c.L H with
    | some v', some H' => some (v', H', nx + (c.nxs' - c.nxs))
    | _, _ => none
  else none

/-- What is checked of a run. -/
noncomputable def crB (c : CR) : Option Res → Bool
  | some (.ret v H nx _) => veq 8 v c.v && Nat.beq nx c.nxs' && c.ids.all (fun i => objEq (H.at i) (c.Hs.at i)) && c.L.all (fun p => Nat.ble c.nxs p.1 && Nat.blt p.1 c.nxs' && objEq (H.at p.1) (some (.cells p.2.1 p.2.2.1 p.2.2.2 false)))
  | _ => false

structure CROk (P : Program) (env : Env) (c : CR) : Prop where
  vs : ∀ v ∈ c.vs, Closedv v
  small : ∀ i o, i < 2 ^ HD → c.Hs.at i = some o → i ∈ c.ids ∧ i < c.nxs ∧ ∃ t cs g ro, o = .cells t cs g ro ∧ ∀ v ∈ cs, Closedv v
  G : env.G ≤ c.nxs

theorem adoptK_ok {φ : Nat → Nat} : ∀ {L : List (Nat × TypeId × List Value × Bool)} {H H' : AHeap}, adoptK φ L H = some H' → (∀ p ∈ L, φ p.1 < 2 ^ HD) →
    ∀ id o, id < 2 ^ HD → H'.at id = some o → (∃ r t cs g cs', (r, t, cs, g) ∈ L ∧ id = φ r ∧ rnL (rnK 8 φ) cs = some cs' ∧ o = .cells t cs' g false) ∨ H.at id = some o
  | [], H, H', h, _, id, o, _, ho => by cases h; exact .inr ho
  | (r, t, cs, g) :: l, H, H', h, hφ, id, o, hid, ho => by
    simp only [adoptK] at h
    split at h
    · rename_i cs' hc
      rcases adoptK_ok h (fun p hp => hφ p (List.mem_cons_of_mem _ hp)) id o hid ho with ⟨r', t', cs0, g', cs1, hm, h1, h2, h3⟩ | h1
      · exact .inl ⟨r', t', cs0, g', cs1, List.mem_cons_of_mem _ hm, h1, h2, h3⟩
      · rw [AHeap.at_put _ _ _ _ (hφ (r, t, cs, g) (List.mem_cons_self ..)) hid] at h1
        split at h1
        · rename_i e
          exact .inl ⟨r, t, cs, g, cs', List.mem_cons_self .., e.symm, hc, (Option.some.inj h1).symm⟩
        · exact .inr h1
    · cases h

theorem rnL_get {f : Value → Option Value} : ∀ {l l' : List Value}, rnL f l = some l' → l'.length = l.length ∧ ∀ v' ∈ l', ∃ v ∈ l, f v = some v'
  | [], l', e => by simp only [rnL, Option.some.injEq] at e; subst e; simp
  | v :: vs, l', e => by
    simp only [rnL] at e
    split at e
    · rename_i a b h1 h2
      cases e
      obtain ⟨h3, h4⟩ := rnL_get h2
      refine ⟨by simp [h3], fun v' hv' => ?_⟩
      rcases List.mem_cons.1 hv' with rfl | hv'
      · exact ⟨v, List.mem_cons_self .., h1⟩
      · obtain ⟨x, hx, hf⟩ := h4 v' hv'
        exact ⟨x, List.mem_cons_of_mem _ hx, hf⟩
    · cases e

section
variable {P : Program} {env : Env} {main : Bool} {W : Foot → Goroutine → World → Prop} {K0 : Con}

theorem crB_eq {c : CR} {x : Option Res} (h : crB c x = true) : ∃ H' rc, x = some (.ret c.v H' c.nxs' rc) ∧ (∀ i ∈ c.ids, H'.at i = c.Hs.at i) ∧ ∀ r t cs g, (r, t, cs, g) ∈ c.L → c.nxs ≤ r ∧ r < c.nxs' ∧ H'.at r = some (.cells t cs g false) := by
  unfold crB at h
  split at h
  · rename_i v H nx rc
    simp only [Bool.and_eq_true, List.all_eq_true] at h
    obtain ⟨⟨⟨h1, h2⟩, h3⟩, h4⟩ := h
    rw [veq_ok 8 _ _ h1, Nat.eq_of_beq_eq_true h2]
    refine ⟨H, rc, rfl, fun i hi => (objEq_eq (h3 i hi)).1, fun r t cs g hm => ?_⟩
    obtain ⟨⟨h5, h6⟩, h7⟩ := h4 _ hm
    exact ⟨ble_le h5, blt_lt h6, (objEq_eq h7).1⟩
  · cases h

theorem con_merge (C : Closed P main W) (ok : EnvOk P env) (hK : ConOk P env W K0) {c : CR} (hc : CROk P env c) {n : Nat} (hev : crB c (ev env K0 n (.call c.f c.vs) ⟨.nil, 0, c.Hs, c.nxs, [], .no⟩) = true)
    {f : FuncId} {vs : List Value} {H H' : AHeap} {nx nx' : Nat} {v : Value} (hk : crK c f vs H nx = some (v, H', nx')) {σ : Sub} {F : Foot} {w : World} (hh : HR P env.G σ H nx F w) {w0 : World} (hro : RoFix w0 F w) (hW : ∀ F g w, (RoFix w0 F w → W F g w) → W F g w) (fr : Frame) (cs : List Frame)
    (hend : ∀ σ' F' w', Reach σ H nx F w σ' H' nx' F' w' → HR P env.G σ' H' nx' F' w' → Sc nx' v → W F' (G (fr.finish (ren σ' v)) cs) w') : W F (G (Frame.enter P f (vs.map (ren σ)).toArray .normal) (fr :: cs)) w := by
  unfold crK at hk
  cases hb : (Nat.beq f c.f && leq (veq 8) vs c.vs && Nat.ble c.nxs nx && Nat.ble (nx + (c.nxs' - c.nxs)) (2 ^ HD) && c.ids.all (fun i => objEq (c.Hs.at i) (H.at i))) with
  | false => rw [hb] at hk; cases hk
  | true =>
    rw [hb] at hk
    simp only [cond_true] at hk
    simp only [Bool.and_eq_true, List.all_eq_true] at hb
    obtain ⟨⟨⟨⟨b1, b2⟩, b3⟩, b4⟩, b5⟩ := hb
    have e1 := Nat.eq_of_beq_eq_true b1
    have e2 := leq_ok (veq_ok 8) b2
    subst e1; subst e2
    have hnx := ble_le b3
    have htop := ble_le b4
    split at hk
    · rename_i v' Hn hv hH
      simp only [Option.some.injEq, Prod.mk.injEq] at hk
      obtain ⟨rfl, rfl, rfl⟩ := hk
      obtain ⟨Hz, rc, hres, hsame, hL⟩ := crB_eq hev
      have hat : ∀ i o, i < 2 ^ HD → c.Hs.at i = some o → H.at i = some o ∧ Hz.at i = some o := by
        intro i o hi ho
        have hm := (hc.small i o hi ho).1
        exact ⟨by rw [← (objEq_eq (b5 i hm)).1]; exact ho, by rw [hsame i hm]; exact ho⟩
      -- the small heap
      have hsm : HR P env.G σ c.Hs c.nxs F w := by
        refine ⟨fun id o hid ho => ?_, fun id id' o o' hid hid' ho ho' e => hh.inj id id' o o' hid hid' (hat id o hid ho).1 (hat id' o' hid' ho').1 e, Nat.le_trans hnx hh.top, ⟨hc.G, hh.glob.2⟩, hh.mine, hh.ro⟩
        obtain ⟨_, hlt, t, cs', g, ro, rfl, hcl⟩ := hc.small id o hid ho
        obtain ⟨_, hO⟩ := hh.live id _ hid (hat id _ hid ho).1
        obtain ⟨cc, fr', g1, g2, g3, g4, g5, _, g7⟩ := hO
        exact ⟨hlt, cc, fr', g1, g2, g3, g4, g5, fun v hv => (hcl v hv).sc _, g7⟩
      have snd := (sound C ok hK n).call
      have hvs : ∀ v ∈ c.vs, Sc c.nxs v := fun v hv => (hc.vs v hv).sc _
      have hle : c.nxs ≤ c.nxs' ∨ c.nxs' ≤ c.nxs := Nat.le_total _ _
      refine snd c.f c.vs _ _ hres .normal σ F w (fun _ => fr :: cs) (.inl rfl) hsm hvs (fun fr' hk => by simp [tryRecover, hk]) ?_
      intro σ1 F1 w1 hre hh1 hsc
      show W F1 (G (fr.finish (ren σ1 c.v)) cs) w1
      refine hW _ _ _ fun hfix => ?_
      let φ := c.φ nx
      have hφlo : ∀ r, r < c.nxs → φ r = r := fun r hr => by show (bif Nat.blt r c.nxs then r else _) = r; rw [blt_of_lt hr]; rfl
      have hφhi : ∀ r, c.nxs ≤ r → φ r = r - c.nxs + nx := fun r hr => by
        show (bif Nat.blt r c.nxs then r else _) = _
        have : Nat.blt r c.nxs = false := by
          cases hx : Nat.blt r c.nxs with
          | false => rfl
          | true => have := blt_lt hx; omega
        rw [this]; rfl
      let σ2 : Sub := fun i => if i < nx then σ i else σ1 (i - nx + c.nxs)
      have hσ2lo : Agree σ σ2 nx := fun i hi => by simp only [σ2, if_pos hi]
      have hσ2 : ∀ r, σ2 (φ r) = σ1 r := by
        intro r
        by_cases hr : r < c.nxs
        · rw [hφlo r hr]
          show (if r < nx then σ r else _) = _
          rw [if_pos (by omega)]
          exact hre.agree r hr
        · rw [hφhi r (by omega)]
          show (if r - c.nxs + nx < nx then _ else σ1 (r - c.nxs + nx - nx + c.nxs)) = _
          rw [if_neg (by omega)]
          congr 1; omega
      have hφlt : ∀ r, r < c.nxs' → φ r < nx + (c.nxs' - c.nxs) := by
        intro r hr
        by_cases hr2 : r < c.nxs
        · rw [hφlo r hr2]; omega
        · rw [hφhi r (by omega)]; omega
      have hval : ren σ2 v' = ren σ1 c.v := rnK_ok hσ2 8 _ _ hv
      rw [← hval]
      have hLφ : ∀ p ∈ c.L, φ p.1 < 2 ^ HD := fun p hp => by
        obtain ⟨r, t, cs', g⟩ := p
        exact Nat.lt_of_lt_of_le (hφlt r (hL r t cs' g hp).2.1) htop
      have hobjs := adoptK_ok hH hLφ
      -- blocks
      have hmine : ∀ b, F.mine b → F1.mine b := hre.keeps.mine
      have hrokeep : ∀ b, F.ro b → w1.heap[b]? = w.heap[b]? := fun b hb => by
        rw [(hfix.ro b (by rw [hre.keeps.ro]; exact hb)).2.2, (hro.ro b hb).2.2]
      have hrone : ∀ b, F.ro b → ¬ F1.mine b := fun b hb => (hfix.ro b (by rw [hre.keeps.ro]; exact hb)).2.1
      have hLmine : ∀ r t cs0 g, (r, t, cs0, g) ∈ c.L → F1.mine (σ1 r).blk := by
        intro r t cs0 g hm
        obtain ⟨_, l2, l3⟩ := hL r t cs0 g hm
        obtain ⟨_, cc, fr', g1, g2, g3, g4, g5, g6, g7⟩ := hh1.live r _ (Nat.lt_of_lt_of_le l2 hh1.top) l3
        exact g7
      have hold : ∀ id o, id < 2 ^ HD → H.at id = some o → (c.Hs.at id = some o) ∨ ((∀ r t cs0 g, (r, t, cs0, g) ∈ c.L → (σ1 r).blk ≠ (σ id).blk) ∧ w1.heap[(σ id).blk]? = w.heap[(σ id).blk]?) := by
        intro id o hid ho
        by_cases hs : ∃ o', c.Hs.at id = some o'
        · obtain ⟨o', ho'⟩ := hs
          have := (hat id o' hid ho').1
          rw [ho] at this
          cases this
          exact .inl ho'
        · refine .inr ?_
          have hO := (hh.live id o hid ho).2
          rcases hO.mineRo with hm | hm
          · have hk := hre.keeps.kept _ hm (by
              rintro ⟨id', o', hid', ho', e⟩
              have := hh.inj id' id o' o hid' hid (hat id' o' hid' ho').1 ho e
              subst this
              exact hs ⟨o', ho'⟩)
            refine ⟨fun r t cs0 g hmem e => hk.1 ⟨r, _, ?_, (hL r t cs0 g hmem).2.2, e⟩, hk.2⟩
            exact Nat.lt_of_lt_of_le (hL r t cs0 g hmem).2.1 hh1.top
          · exact ⟨fun r t cs0 g hmem e => hrone _ hm (e ▸ hLmine r t cs0 g hmem), hrokeep _ hm⟩
      have hH2 : HR P env.G σ2 Hn (nx + (c.nxs' - c.nxs)) F1 w1 := by
        have hblk : ∀ id o, id < 2 ^ HD → Hn.at id = some o → (∃ r t cs0 g, (r, t, cs0, g) ∈ c.L ∧ id = φ r ∧ Hz.at r = some (.cells t cs0 g false) ∧ r < 2 ^ HD ∧ (σ2 id).blk = (σ1 r).blk) ∨ (H.at id = some o ∧ σ2 id = σ id) := by
          intro id o hid ho
          rcases hobjs id o hid ho with ⟨r, t, cs0, g, cs1, hm, h1, h2, h3⟩ | h1
          · obtain ⟨l1, l2, l3⟩ := hL r t cs0 g hm
            exact .inl ⟨r, t, cs0, g, hm, h1, l3, Nat.lt_of_lt_of_le l2 hh1.top, by rw [h1, hσ2]⟩
          · exact .inr ⟨h1, (hσ2lo id (hh.live id o hid h1).1).symm⟩
        refine ⟨fun id o hid ho => ?_, fun id id' o o' hid hid' ho ho' e => ?_, htop, ⟨Nat.le_trans hh.glob.1 (by omega), fun g hg => by rw [← hσ2lo g (Nat.lt_of_lt_of_le hg hh.glob.1)]; exact hh.glob.2 g hg⟩, hh1.mine, hh1.ro⟩
        · rcases hobjs id o hid ho with ⟨r, t, cs0, g, cs1, hm, h1, h2, h3⟩ | h1
          · obtain ⟨l1, l2, l3⟩ := hL r t cs0 g hm
            subst h1; subst h3
            refine ⟨hφlt r l2, ?_⟩
            obtain ⟨_, cc, fr', g1, g2, g3, g4, g5, g6, g7⟩ := hh1.live r _ (Nat.lt_of_lt_of_le l2 hh1.top) l3
            have hs := hσ2 r
            obtain ⟨hlen, hmem⟩ := rnL_get h2
            have hmap := rnL_ok (g1 := ren σ1) (g2 := ren σ2) (fun v v' => rnK_ok hσ2 8 v v') h2
            refine ⟨cc, fr', by rw [hs]; exact g1, by rw [hs, hlen]; exact g2, fun i hi => ?_, g4, fun hg => by rw [hs]; exact g5 hg, fun v hv => ?_, by rw [hs]; exact g7⟩
            · rw [hs, g3 i (by omega)]
              have := congrArg (fun l => l[i]?) hmap
              simp only [List.getElem?_map] at this
              exact this.symm
            · obtain ⟨x, hx, hxv⟩ := hmem v hv
              exact rnK_sc hxv (g6 x hx) hφlt
          · obtain ⟨hlt, hO⟩ := hh.live id o hid h1
            refine ⟨by omega, ?_⟩
            rcases hold id o hid h1 with hs | ⟨_, hheap⟩
            · -- an object of the small heap
              obtain ⟨_, hlts, t, cs', g, ro, rfl, hcl⟩ := hc.small id o hid hs
              obtain ⟨_, cc, fr', g1, g2, g3, g4, g5, g6, g7⟩ := hh1.live id _ hid (hat id _ hid hs).2
              have e : σ2 id = σ1 id := by rw [← hσ2 id, hφlo id hlts]
              refine ⟨cc, fr', by rw [e]; exact g1, by rw [e]; exact g2, fun i hi => ?_, g4, fun hg => by rw [e]; exact g5 hg, fun v hv => (hcl v hv).sc _, by rw [e]; exact g7⟩
              rw [e, g3 i hi]
              cases hx : cs'[i]? with
              | none => rfl
              | some v =>
                simp only [Option.map_some]
                rw [hcl v (List.mem_of_getElem? hx) σ1, hcl v (List.mem_of_getElem? hx) σ2]
            · have hO2 := hO.ext hlt hσ2lo (Nat.le_add_right nx (c.nxs' - c.nxs))
              have e : σ2 id = σ id := (hσ2lo id hlt).symm
              cases o with
              | cells t cs' g ro =>
                obtain ⟨cc, fr', g1, g2, g3, g4, g5, g6, g7⟩ := hO2
                refine ⟨cc, fr', by rw [e, hheap, ← e]; exact g1, g2, g3, g4, g5, g6, ?_⟩
                cases ro
                · exact hmine _ g7
                · simp only [if_true] at g7 ⊢; rw [hre.keeps.ro]; exact g7
              | map es ck =>
                obtain ⟨g1, g2, g3⟩ := hO2
                exact ⟨by rw [e, hheap, ← e]; exact g1, g2, hmine _ g3⟩
        · -- one block, one id
          rcases hblk id o hid ho with ⟨r, t, cs0, g, hm, h1, h2, h3, h4⟩ | ⟨h1, h2⟩
          · rcases hblk id' o' hid' ho' with ⟨r', t', cs0', g', hm', h1', h2', h3', h4'⟩ | ⟨h1', h2'⟩
            · rw [h4, h4'] at e
              rw [h1, h1', hh1.inj r r' _ _ h3 h3' h2 h2' e]
            · rcases hold id' o' hid' h1' with hs | ⟨hn, _⟩
              · have hlts := (hc.small id' o' hid' hs).2.1
                have e' : σ2 id' = σ1 id' := by rw [← hσ2 id', hφlo id' hlts]
                rw [h4, e'] at e
                have := hh1.inj r id' _ _ h3 hid' h2 (hat id' o' hid' hs).2 e
                have := (hL r t cs0 g hm).1
                omega
              · rw [h4, h2'] at e
                exact absurd e (hn r t cs0 g hm)
          · rcases hblk id' o' hid' ho' with ⟨r', t', cs0', g', hm', h1', h2', h3', h4'⟩ | ⟨h1', h2'⟩
            · rcases hold id o hid h1 with hs | ⟨hn, _⟩
              · have hlts := (hc.small id o hid hs).2.1
                have e' : σ2 id = σ1 id := by rw [← hσ2 id, hφlo id hlts]
                rw [h4', e'] at e
                have := hh1.inj id r' _ _ hid h3' (hat id o hid hs).2 h2' e
                have := (hL r' t' cs0' g' hm').1
                omega
              · rw [h4', h2] at e
                exact absurd e.symm (hn r' t' cs0' g' hm')
            · rw [h2, h2'] at e
              exact hh.inj id id' o o' hid hid' h1 h1' e
      refine hend σ2 F1 w1 ⟨hσ2lo, Nat.le_add_right _ _, ⟨hre.keeps.size, hmine, hre.keeps.ro, fun b hb hi => ?_⟩⟩ hH2 (rnK_sc hv hsc hφlt)
      have hns : ¬ Img σ c.Hs b := by
        rintro ⟨id, o, hid, ho, e⟩
        exact hi ⟨id, o, hid, (hat id o hid ho).1, e⟩
      obtain ⟨k1, k2⟩ := hre.keeps.kept b hb hns
      refine ⟨?_, k2⟩
      rintro ⟨id, o, hid, ho, e⟩
      rcases hobjs id o hid ho with ⟨r, t, cs0, g, cs1, hm, h1, h2, h3⟩ | h1
      · obtain ⟨l1, l2, l3⟩ := hL r t cs0 g hm
        rw [h1, hσ2] at e
        exact k1 ⟨r, _, Nat.lt_of_lt_of_le l2 hh1.top, l3, e⟩
      · rw [← hσ2lo id (hh.live id o hid h1).1] at e
        exact hi ⟨id, o, hid, h1, e⟩
    · cases hk
end
end Go.Proofs.Evz

/-
  ENGINE 36. A function that makes two channels, starts a child on them, and receives until the child closes the first one: the walk of its own steps.
-/
namespace Go.Proofs.Evz
open Go Go.Conc

section
variable {P : Program}

theorem recv_run {a : Act} {o : Oper} {t el : TypeId} {dir : ChanDir} {ti : TypeInfo} {d : Tmp} {z : Value} {c : Nat} (hop : o.op = .recv t (.tmp d) true) (h1 : P.underlying t = some (.chan dir el)) (h2 : P.info? el = some ti) (hz : ti.zero = some z) (he : a.eval (.tmp d) = .chan (some c)) :
    (∀ w, (execOp a.eval o).run P w = .ok (.comm #[rcase c z] true (.recv true)) w) ∧ ∀ w, (execOp a.eval o).events P w #[] = #[] := by
  constructor
  · intro w
    unfold execOp
    rw [hop]
    simp only [he]
    simp [go_sem, underlying, zeroValue, typeInfo, h1, h2, hz, rcase]
  · intro w
    unfold execOp
    rw [hop]
    simp only [he]
    simp [go_sem, underlying, zeroValue, typeInfo, h1, h2, hz]

theorem move_eff {env : Env} {t : Tmp} {tm : ATmp} {nt : Nat} {H : AHeap} {nx : Nat} (h : t < nt) : opF (.move (.tmp t)) env (fun x => opv x env tm nt) H nx = .val (tget tm t) H nx := by
  show Eff.ofV (opv (.tmp t) env tm nt) H nx = _
  simp only [opv, blt_of_lt h]; rfl
theorem assign_eff {env : Env} {t : Tmp} {tm : ATmp} {nt : Nat} {H : AHeap} {nx : Nat} (h : t < nt) : opF (.assign (.tmp t)) env (fun x => opv x env tm nt) H nx = .val (tget tm t) H nx := by
  show Eff.ofV (opv (.tmp t) env tm nt) H nx = _
  simp only [opv, blt_of_lt h]; rfl

theorem tput_comm {tm : ATmp} {a b t : Nat} {x y : Value} (ha : a < 256) (hb : b < 256) (ht : t < 256) (h : a ≠ b) : tget (tput (tput tm a x) b y) t = tget (tput (tput tm b y) a x) t := by
  rw [tget_tput hb ht, tget_tput ha ht, tget_tput ha ht, tget_tput hb ht]
  by_cases e1 : b = t
  · subst e1; rw [if_pos rfl, if_neg h, if_pos rfl]
  · rw [if_neg e1, if_neg e1]
theorem tput_congr {tm tm' : ATmp} {a t : Nat} {x : Value} (ha : a < 256) (ht : t < 256) (h : tget tm t = tget tm' t) : tget (tput tm a x) t = tget (tput tm' a x) t := by
  rw [tget_tput ha ht, tget_tput ha ht, h]

/-- A deferred close is made on the way out. -/
theorem unw_close {main : Bool} {c : Nat} {b : Frame} {T : Array Value} {todo : List Item} {cs : List Frame} {ats : Array TypeId} {ty : TypeId} {ks : Array Bool} {w : World} (ho' : OpenCh w c) :
    stepG P main (G { b.at ⟨T, [{ target := .builtin .close ats ty ks, args := #[.chan (some c)] }]⟩ todo with mode := .returning } cs) w =
      .go (G { b.at ⟨T, []⟩ todo with mode := .returning } cs) (w.shut c 0 0 false) #[⟨.obj c, false, true⟩, ⟨.obj c, true, true⟩] := by
  have h1 : (builtin .close ats ty ks #[.chan (some c)]).run P w = .ok (.value (.tuple #[])) (w.shut c 0 0 false) := by
    simp [go_sem, run_close_open _ _ ho', World.shut]
  have h2 : (builtin .close ats ty ks #[.chan (some c)]).events P w #[] = #[⟨.obj c, false, true⟩, ⟨.obj c, true, true⟩] := by
    simp [go_sem, events_close_open _ _ ho']
  have h3 : seen P b.fn #[⟨.obj c, false, true⟩, ⟨.obj c, true, true⟩] = #[⟨.obj c, false, true⟩, ⟨.obj c, true, true⟩] := by
    simp [seen]
  simp [G, stepG, unwind, callDeferred, Frame.at, GStep.after, invoke, h1, h2, h3]

def sE : Value := .string ⟨⟨[]⟩⟩
def closeD (ats : Array TypeId) (ty : TypeId) (ks : Array Bool) (id : Nat) : List Deferred := [{ target := .builtin .close ats ty ks, args := #[.chan (some id)] }]
def decRes : Value := .tuple #[.slice none 0 0, .int .i64 0, .int .i64 0]

structure DecFacts (P : Program) (env : Env) (fD fT : FuncId) where
  fn : Func
  fnT : Func
  bodyT : Code
  R0 : Code
  R2 : Code
  X2 : Code
  E : Code
  i1 : Nat
  i3 : Nat
  i4 : Nat
  i5 : Nat
  o1 : Array Oper
  o3 : Array Oper
  o4 : Array Oper
  o5 : Array Oper
  n : Nat
  nt : Nat
  p0 : Oper
  p1 : Oper
  p2 : Oper
  p3 : Oper
  q0 : Oper
  q1 : Oper
  q2 : Oper
  q3 : Oper
  m0 : Oper
  v0 : Oper
  tA : TypeId
  tB : TypeId
  elA : TypeId
  elB : TypeId
  dirA : ChanDir
  dirB : ChanDir
  iA : TypeInfo
  iB : TypeInfo
  dA : Tmp
  dB : Tmp
  d5 : Tmp
  d6 : Tmp
  d11 : Tmp
  d12 : Tmp
  d13 : Tmp
  d14 : Tmp
  d15 : Tmp
  ats : Array TypeId
  ty : TypeId
  ks : Array Bool
  gty : Array TypeId
  z : Value
  tm1 : ATmp
  tm3 : Nat → Nat → ATmp
  tm6 : Nat → Nat → ATmp
  tm7 : Nat → Nat → ATmp
  hfn : env.fn fD = some fn
  hB : fn.body = some (.seq R0 (.seq (.region i1 o1 true) (.seq R2 (.seq (.region i3 o3 false) (.seq (.seq (.region i4 o4 false) (.block 0 (.loop (.seq (.region i5 o5 false) X2)))) E)))))
  hnt : [sE].length + (fn.ntmps - [sE].length) = nt
  hle : nt ≤ 256
  -- the child
  hfnT : env.fn fT = some fnT
  hbodyT : fnT.body = some bodyT
  hresT : fnT.results = #[]
  hleT : 3 + (fnT.ntmps - 3) ≤ 256
  hG : env.G + 2 ≤ 2 ^ HD
  hevT : isRetB (ev env KN n (.code bodyT) ⟨argTm [sE, .chan (some env.G), .chan (some (env.G + 1))] 0 .nil, 3 + (fnT.ntmps - 3), .nil, env.G + 2, [], .no⟩) = true
  hdfT : isClose env.G (outSt (ev env KN n (.code bodyT) ⟨argTm [sE, .chan (some env.G), .chan (some (env.G + 1))] 0 .nil, 3 + (fnT.ntmps - 3), .nil, env.G + 2, [], .no⟩)).df = true
  -- the pieces
  h0 : ∀ H nx, ev env KN n (.code R0) ⟨argTm [sE] 0 .nil, nt, H, nx, [], .no⟩ = some (.out .normal ⟨tm1, nt, H, nx, [], .no⟩)
  orders : ∀ t, Region.schedule true o1 t = [0, 1, 2, 3] ∨ Region.schedule true o1 t = [1, 0, 2, 3] ∨ Region.schedule true o1 t = [0, 2, 1, 3]
  ho1 : o1 = #[p0, p1, p2, p3]
  hp0 : p0.guard = none ∧ p0.op = .makeChan tA (.const (.int .i64 0)) ∧ p0.dst = some dA
  hp1 : p1.guard = none ∧ p1.op = .makeChan tB (.const (.int .i64 0)) ∧ p1.dst = some dB
  hp2 : p2.guard = none ∧ p2.op = .assign (.tmp dA) ∧ p2.dst = some d5
  hp3 : p3.guard = none ∧ p3.op = .assign (.tmp dB) ∧ p3.dst = some d6
  hA : P.underlying tA = some (.chan dirA elA) ∧ P.info? elA = some iA ∧ iA.zero = some z
  hBB : P.underlying tB = some (.chan dirB elB) ∧ P.info? elB = some iB
  hlt : dA < nt ∧ dB < nt ∧ d5 < nt ∧ d6 < nt ∧ d11 < nt ∧ d12 < nt ∧ d13 < nt ∧ d14 < nt ∧ d15 < nt ∧ 0 < nt
  hne : dA ≠ dB ∧ dA ≠ d5 ∧ dA ≠ d6 ∧ dB ≠ d5 ∧ dB ≠ d6 ∧ d5 ≠ d6
  h2 : ∀ H nx a b, ev env KN n (.code R2) ⟨tput (tput (tput (tput tm1 dA (.chan (some a))) dB (.chan (some b))) d5 (.chan (some a))) d6 (.chan (some b)), nt, H, nx, [], .no⟩ = some (.out .normal ⟨tm3 a b, nt, H, nx, closeD ats ty ks b, .no⟩)
  ho3 : o3 = #[q0, q1, q2, q3]
  hq0 : q0.guard = none ∧ q0.op = .move (.tmp 0) ∧ q0.dst = some d11
  hq1 : q1.guard = none ∧ q1.op = .move (.tmp d5) ∧ q1.dst = some d12
  hq2 : q2.guard = none ∧ q2.op = .move (.tmp d6) ∧ q2.dst = some d13
  hq3 : q3.guard = none ∧ q3.op = .go { callee := .value (.func fT), args := #[.tmp d11, .tmp d12, .tmp d13], argTypes := gty } ∧ q3.dst = none
  g3 : ∀ a b, tget (tm3 a b) 0 = sE ∧ tget (tput (tm3 a b) d11 sE) d5 = .chan (some a) ∧ tget (tput (tput (tm3 a b) d11 sE) d12 (.chan (some a))) d6 = .chan (some b) ∧
    tget (tput (tput (tput (tm3 a b) d11 sE) d12 (.chan (some a))) d13 (.chan (some b))) d11 = sE ∧ tget (tput (tput (tput (tm3 a b) d11 sE) d12 (.chan (some a))) d13 (.chan (some b))) d12 = .chan (some a) ∧
    tget (tput (tput (tput (tm3 a b) d11 sE) d12 (.chan (some a))) d13 (.chan (some b))) d13 = .chan (some b) ∧ tget (tput (tput (tput (tm3 a b) d11 sE) d12 (.chan (some a))) d13 (.chan (some b))) d5 = .chan (some a)
  ho4 : o4 = #[m0]
  hm0 : m0.guard = none ∧ m0.op = .move (.tmp d5) ∧ m0.dst = some d14
  ho5 : o5.toList = v0 :: o5.toList.drop 1
  hv0 : v0.guard = none ∧ v0.op = .recv tA (.tmp d14) true ∧ v0.dst = some d15
  h5 : ∀ H nx a b, ev env KN n (.ops o5 1 (o5.toList.drop 1)) ⟨tput (tput (tput (tput (tput (tm3 a b) d11 sE) d12 (.chan (some a))) d13 (.chan (some b))) d14 (.chan (some a))) d15 (.tuple #[z, .bool false]), nt, H, nx, closeD ats ty ks b, .no⟩ = some (.out .normal ⟨tm6 a b, nt, H, nx, closeD ats ty ks b, .no⟩)
  h6 : ∀ H nx a b, ev env KN n (.code X2) ⟨tm6 a b, nt, H, nx, closeD ats ty ks b, .no⟩ = some (.out (.exit 0) ⟨tm6 a b, nt, H, nx, closeD ats ty ks b, .no⟩)
  h7 : ∀ H nx a b, ev env KN n (.code E) ⟨tm6 a b, nt, H, nx, closeD ats ty ks b, .no⟩ = some (.out .ret ⟨tm7 a b, nt, H, nx, closeD ats ty ks b, .no⟩)
  h8 : ∀ H nx a b, ev env KN n (.unwind fn none) ⟨tm7 a b, nt, H, nx, [], .no⟩ = some (.ret decRes H nx .no)
  hz : Closedv z
end
end Go.Proofs.Evz

/-
  ENGINE 37. .. its contract.
-/
namespace Go.Proofs.Evz
open Go Go.Conc

section
variable {P : Program} {env : Env} {Post : Value → World → Prop} {w0 : World} {fD fT : FuncId}

theorem decRes_sc (n : Nat) : Sc n decRes := fun σ σ' _ => by simp [decRes]

/-- The last part: from behind the receive. -/
theorem dec_tail (D : DecFacts P env fD fT) (ok : EnvOk P env) {σ : Sub} {H : AHeap} {nx : Nat} {a b : Nat} {bf : Frame} {act : Act} {F : Foot} {w : World} {c : Frame} {cs : List Frame}
    (hbf : bf.kind = .normal) (hbn : P.funcs[bf.fn]? = some D.fn)
    (hR : Rel P env bf σ ⟨tput (tput (tput (tput (tput (D.tm3 a b) D.d11 sE) D.d12 (.chan (some a))) D.d13 (.chan (some b))) D.d14 (.chan (some a))) D.d15 (.tuple #[D.z, .bool false]), D.nt, H, nx, closeD D.ats D.ty D.ks b, .no⟩ act F w (fun _ => c :: cs))
    (hC : ChIs σ H F w (σ b).blk) (hb : b < nx) {X : Code}
    (hk : ∀ σ' F' w', Agree σ σ' nx → (∀ x, F.mine x → x ≠ (σ b).blk → F'.mine x) → F'.ro = F.ro → (∀ x, F.mine x → x ≠ (σ b).blk → ¬ Img σ H x → ¬ Img σ' H x ∧ w'.heap[x]? = w.heap[x]?) → w.heap.size ≤ w'.heap.size → HR P env.G σ' H nx F' w' →
      Wn P Post w0 F' (G (c.finish decRes) cs) w') :
    Wn P Post w0 F (G (bf.at act (.inRegion D.o5 (List.range' 1 (D.o5.toList.drop 1).length) :: .code D.X2 :: .inLoop X :: .inBlock 0 :: .code D.E :: [])) (c :: cs)) w := by
  have C : Closed P true (Wn P Post w0) := wn_closed
  have snd := sound C ok (conOk_none (W := Wn P Post w0)) D.n
  refine snd.ops _ _ _ _ _ _ (D.h5 H nx a b) rfl bf act _ σ F w (fun _ => c :: cs) hR fun σ1 a1 F1 w1 r1 R1 => ?_
  refine snd.code _ _ _ _ (D.h6 H nx a b) bf a1 _ σ1 F1 w1 (fun _ => c :: cs) R1 ⟨[.code D.E], by simp [exitTo], fun σ2 a2 F2 w2 r2 R2 => ?_⟩
  refine snd.code _ _ _ _ (D.h7 H nx a b) bf a2 [] σ2 F2 w2 (fun _ => c :: cs) R2 fun σ3 a3 F3 w3 r3 R3 todo => ?_
  have rr := (r1.trans r2).trans r3
  have hC3 := hC.reach rr
  have hag := rr.agree
  have hbb : (σ3 b).blk = (σ b).blk := by rw [← hag b hb]
  have hdef : a3.defers = [{ target := .builtin .close D.ats D.ty D.ks, args := #[.chan (some (σ b).blk)] }] := by
    rw [R3.df]
    simp [closeD, renD, renT, hbb]
  have ea : a3 = ⟨a3.tmps, [{ target := .builtin .close D.ats D.ty D.ks, args := #[.chan (some (σ b).blk)] }]⟩ := by rw [← hdef]
  show Wn P Post w0 F3 (G { bf.at a3 todo with mode := .returning } (c :: cs)) w3
  rw [ea]
  refine C.step F3 _ w3 rfl fun w4 r4 => ⟨_, _, _, unw_close ?_, ⟨?_, ?_⟩, ?_⟩
  · show w4.heap[(σ b).blk]? = _
    rw [r4.block _ (.inl hC3.mine)]; exact hC3.heap
  · exact diff_setObj F3 _ w4 _ _ (.inl hC3.mine)
  · have hlt : (σ b).blk < (w4.shut (σ b).blk 0 0 false).heap.size := by
      have : (σ b).blk < w4.heap.size := lt_of_get (by rw [r4.block _ (.inl hC3.mine)]; exact hC3.heap)
      simpa [World.shut] using this
    intro e he
    have : e = ⟨.obj (σ b).blk, false, true⟩ ∨ e = ⟨.obj (σ b).blk, true, true⟩ := by simpa using he
    rcases this with rfl | rfl
    · exact ⟨⟨.inl (.inl hC3.mine), fun h => by cases h⟩, hlt⟩
    · exact ⟨⟨.inl (.inl hC3.mine), fun _ => .inl hC3.mine⟩, hlt⟩
  · have hsize : (w4.shut (σ b).blk 0 0 false).heap.size = w4.heap.size := by simp [World.shut]
    rw [hsize, grow_self]
    have hother : ∀ x, x ≠ (σ b).blk → (w4.shut (σ b).blk 0 0 false).heap[x]? = w4.heap[x]? := fun x hx => by simp [World.shut, Array.getElem?_setIfInBounds_ne (Ne.symm hx)]
    have H4 : HR P env.G σ3 H nx (F3.less (σ b).blk) w4 := (R3.hr.rely r4).less hC3.nimg
    have hnotro : ¬ F3.ro (σ b).blk := fun h => (R3.hr.ro _ h).2 hC3.mine
    have H5 : HR P env.G σ3 H nx (F3.less (σ b).blk) (w4.shut (σ b).blk 0 0 false) := H4.world (fun x hx => hother x (by
      rcases hx with hx | hx
      · exact hx.2
      · exact fun e => hnotro (e ▸ hx))) (fun _ h => h) rfl (fun x hx => by rw [hsize]; exact H4.mine x hx) (by rw [hsize]; exact Nat.le_refl _) (fun x hx => (H4.ro x hx).2)
    have P5 : PRel P env bf σ3 ⟨D.tm7 a b, D.nt, H, nx, [], .no⟩ ⟨a3.tmps, []⟩ (F3.less (σ b).blk) (w4.shut (σ b).blk 0 0 false) (fun _ => c :: cs) := ⟨R3.size, R3.nt, rfl, by simp, R3.kind, H5, R3.rc⟩
    refine wn_less (B := (σ b).blk) ?_
    refine snd.unwind D.fn none _ _ (D.h8 H nx a b) bf ⟨a3.tmps, []⟩ todo σ3 (F3.less (σ b).blk) _ (fun _ => c :: cs) P5 (.inr R3.tmp) hbn (.inl hbf) trivial ?_
    rw [hbf]
    intro σ6 F6 w6 r6 H6 hsc
    show Wn P Post w0 F6 (G (c.finish (ren σ6 decRes)) cs) w6
    have e6 : ren σ6 decRes = decRes := by simp [decRes]
    rw [e6]
    refine hk σ6 F6 w6 (hag.trans r6.agree (Nat.le_refl _)) (fun x hx hne => r6.keeps.mine x ⟨rr.keeps.mine x hx, hne⟩) (r6.keeps.ro.trans rr.keeps.ro) (fun x hx hne hi => ?_) ?_ H6
    · obtain ⟨h1, h2⟩ := rr.keeps.kept x hx hi
      obtain ⟨h3, h4⟩ := r6.keeps.kept x ⟨rr.keeps.mine x hx, hne⟩ h1
      refine ⟨h3, ?_⟩
      rw [h4, hother x hne, r4.block x (.inl (rr.keeps.mine x hx)), h2]
    · have h1 := rr.keeps.size
      have h2 := r4.size
      have h3 := r6.keeps.size
      rw [hsize] at h3
      omega

/-- What is asked of the end of the call. -/
def DecEnd (P : Program) (env : Env) (Post : Value → World → Prop) (w0 : World) (σ : Sub) (H : AHeap) (nx : Nat) (F : Foot) (w : World) (c : Frame) (cs : List Frame) : Prop :=
  ∀ σ' F' w', Reach σ H nx F w σ' H (nx + 2) F' w' → HR P env.G σ' H (nx + 2) F' w' → Sc (nx + 2) decRes → Wn P Post w0 F' (G (c.finish (ren σ' decRes)) cs) w'

/-- From behind the channels' making. -/
theorem dec_mid (D : DecFacts P env fD fT) (ok : EnvOk P env) {σ σ' : Sub} {H : AHeap} {nx : Nat} {a b : Nat} {bf : Frame} {act : Act} {F F' : Foot} {w w' : World} {c : Frame} {cs : List Frame}
    (hbf : bf.kind = .normal) (hbn : P.funcs[bf.fn]? = some D.fn) (hF : ∀ x, F.mine x → x < w.heap.size) (hend : DecEnd P env Post w0 σ H nx F w c cs)
    (hre : Reach σ H nx F w σ' H (nx + 2) F' w')
    (hR : Rel P env bf σ' ⟨tput (tput (tput (tput D.tm1 D.dA (.chan (some a))) D.dB (.chan (some b))) D.d5 (.chan (some a))) D.d6 (.chan (some b)), D.nt, H, nx + 2, [], .no⟩ act F' w' (fun _ => c :: cs))
    (hCa : ChIs σ' H F' w' (σ' a).blk) (hCb : ChIs σ' H F' w' (σ' b).blk) (ha : a < nx + 2) (hb : b < nx + 2) (hab : (σ' a).blk ≠ (σ' b).blk) (hla : w.heap.size ≤ (σ' a).blk) (hlb : w.heap.size ≤ (σ' b).blk) :
    Wn P Post w0 F' (G (bf.at act (.inRegion D.o1 [] :: .code (.seq D.R2 (.seq (.region D.i3 D.o3 false) (.seq (.seq (.region D.i4 D.o4 false) (.block 0 (.loop (.seq (.region D.i5 D.o5 false) D.X2)))) D.E))) :: [])) (c :: cs)) w' := by
  have C : Closed P true (Wn P Post w0) := wn_closed
  have snd := sound C ok (conOk_none (W := Wn P Post w0)) D.n
  obtain ⟨hlA, hlB, hl5, hl6, hl11, hl12, hl13, hl14, hl15, hl0⟩ := D.hlt
  have hnk : bf.kind ≠ .early := by rw [hbf]; simp
  refine C.quiet (fun w => stepG_region_end) fun w1 r1 => ?_
  refine C.quiet (fun w => stepG_seq) fun w2 r2 => ?_
  have r12 : Reach σ' H (nx + 2) F' w' σ' H (nx + 2) F' w2 := (Reach.rely r1).trans (Reach.rely r2)
  refine snd.code _ _ _ _ (D.h2 H (nx + 2) a b) bf act _ σ' F' w2 (fun _ => c :: cs) ((hR.rely r1).rely r2) fun σ3 a3 F3 w3 r3 R3 => ?_
  refine C.quiet (fun w => stepG_seq) fun w4 r4 => ?_
  refine C.quiet (fun w => stepG_region) fun w5 r5 => ?_
  have e4 : List.range D.o3.size = [0, 1, 2, 3] := by rw [D.ho3]; rfl
  rw [e4]
  have R5 := (R3.rely r4).rely r5
  have rr5 : Reach σ' H (nx + 2) F' w' σ3 H (nx + 2) F3 w5 := (r12.trans r3).trans ((Reach.rely r4).trans (Reach.rely r5))
  obtain ⟨g0, g5, g6, g11, g12, g13, g5'⟩ := D.g3 a b
  -- three moves
  refine one_step C ok (o := D.q0) (v := sE) (by rw [D.ho3]; rfl) D.hq0.1 (by rw [D.hq0.2.1, move_eff hl0, g0]) (fun t e => by rw [D.hq0.2.2] at e; cases e; exact hl11) R5 fun σ6 a6 F6 w6 r6 R6 => ?_
  rw [D.hq0.2.2] at R6
  refine one_step C ok (o := D.q1) (v := .chan (some a)) (by rw [D.ho3]; rfl) D.hq1.1 (by rw [D.hq1.2.1, move_eff hl5]; exact congrArg (fun v => Eff.val v H (nx + 2)) g5) (fun t e => by rw [D.hq1.2.2] at e; cases e; exact hl12) R6 fun σ7 a7 F7 w7 r7 R7 => ?_
  rw [D.hq1.2.2] at R7
  refine one_step C ok (o := D.q2) (v := .chan (some b)) (by rw [D.ho3]; rfl) D.hq2.1 (by rw [D.hq2.2.1, move_eff hl6]; exact congrArg (fun v => Eff.val v H (nx + 2)) g6) (fun t e => by rw [D.hq2.2.2] at e; cases e; exact hl13) R7 fun σ8 a8 F8 w8 r8 R8 => ?_
  rw [D.hq2.2.2] at R8
  have rr8 : Reach σ' H (nx + 2) F' w' σ8 H (nx + 2) F8 w8 := ((rr5.trans r6).trans r7).trans r8
  have hsa : σ8 a = σ' a := (rr8.agree a ha).symm
  have hsb : σ8 b = σ' b := (rr8.agree b hb).symm
  have C8a := hCa.reach rr8
  have C8b := hCb.reach rr8
  -- the go statement
  have ev : ∀ (t : Tmp) (v : Value), t < D.nt → tget (tput (tput (tput (D.tm3 a b) D.d11 sE) D.d12 (.chan (some a))) D.d13 (.chan (some b))) t = v → a8.eval (.tmp t) = ren σ8 v := by
    intro t v ht e
    have h1 := (R8.tmp t ht).1
    have h2 : a8.tmps[t]? = some (ren σ8 v) := by rw [h1]; exact congrArg (fun x => some (ren σ8 x)) e
    show a8.tmps.getD t undef = _
    rw [Array.getD_eq_getD_getElem?, h2]; rfl
  have ev11 := ev D.d11 _ hl11 g11
  have ev12 := ev D.d12 _ hl12 g12
  have ev13 := ev D.d13 _ hl13 g13
  have ev5 := ev D.d5 _ hl5 g5'
  have esE : ren σ8 sE = sE := by simp [sE]
  rw [esE] at ev11
  rw [ren_chan, hsa] at ev12 ev5
  rw [ren_chan, hsb] at ev13
  have hgo : execOp a8.eval D.q3 = pure (.spawn { target := .fn (.func fT) #[], args := #[sE, .chan (some (σ' a).blk), .chan (some (σ' b).blk)] }) := by
    unfold execOp
    rw [D.hq3.2.1]
    have : resolve a8.eval { callee := .value (.func fT), args := #[.tmp D.d11, .tmp D.d12, .tmp D.d13], argTypes := D.gty } D.q3.type = pure { target := .fn (.func fT) #[], args := #[sE, .chan (some (σ' a).blk), .chan (some (σ' b).blk)] } := by
      rw [← ev11, ← ev12, ← ev13]
      simp [resolve, Deferred.ofValue, Act.eval]
    show (resolve a8.eval _ D.q3.type >>= fun d => pure (Next.spawn d)) = _
    rw [this]; rfl
  -- the slide to the receive
  let a9 : Act := a8.put D.q3.dst undef
  let a10 : Act := a9.put (some D.d14) (.chan (some (σ' a).blk))
  let k5 : List Item := [.code D.X2, .inLoop (.seq (.region D.i5 D.o5 false) D.X2), .inBlock 0, .code D.E]
  have e9 : a9 = a8 := by show a8.put D.q3.dst undef = a8; rw [D.hq3.2.2]; rfl
  have ev9 : a9.eval (.tmp D.d5) = .chan (some (σ' a).blk) := by rw [e9]; exact ev5
  let gR : Goroutine := G (bf.at a10 (.inRegion D.o5 (0 :: List.range' 1 (D.o5.toList.drop 1).length) :: k5)) (c :: cs)
  have hrange5 : List.range D.o5.size = 0 :: List.range' 1 (D.o5.toList.drop 1).length := by
    have h1 : D.o5.size = (D.o5.toList.drop 1).length + 1 := by
      have := congrArg List.length D.ho5
      simp only [List.length_cons, Array.length_toList] at this
      exact this
    rw [h1, List.range_eq_range', List.range'_succ]
  have hsl : Slides P true 10 (G (bf.at a9 (.inRegion D.o3 [] :: .code (.seq (.seq (.region D.i4 D.o4 false) (.block 0 (.loop (.seq (.region D.i5 D.o5 false) D.X2)))) D.E) :: [])) (c :: cs)) gR := by
    refine .cons rfl (fun w => stepG_region_end) <| .cons rfl (fun w => stepG_seq) <| .cons rfl (fun w => stepG_seq) <| .cons rfl (fun w => stepG_region) ?_
    have e1 : List.range D.o4.size = [0] := by rw [D.ho4]; rfl
    rw [e1]
    refine .cons rfl (fun w => slide_op (o := D.m0) (v := .chan (some (σ' a).blk)) (by rw [D.ho4]; rfl) D.hm0.1 hnk (by unfold execOp; rw [D.hm0.2.1]; show pure (Next.value (a9.eval (.tmp D.d5))) = _; rw [ev9]) w) ?_
    rw [D.hm0.2.2]
    refine .cons rfl (fun w => stepG_region_end) <| .cons rfl (fun w => stepG_block) <| .cons rfl (fun w => stepG_loop) <| .cons rfl (fun w => stepG_seq) <| .cons rfl (fun w => stepG_region) ?_
    rw [hrange5]
    exact .nil
  have hsz8 : a8.tmps.size = D.nt := R8.size
  have ev10 : a10.eval (.tmp D.d14) = .chan (some (σ' a).blk) := by
    show (a9.put (some D.d14) _).tmps.getD D.d14 undef = _
    rw [Array.getD_eq_getD_getElem?, put_eq (by rw [e9, hsz8]; exact hl14)]; rfl
  have hv0 : D.o5[0]? = some D.v0 := by
    have : D.o5.toList[0]? = some D.v0 := by rw [D.ho5]; rfl
    simpa using this
  obtain ⟨hrr, hree⟩ := recv_run (P := P) (o := D.v0) D.hv0.2.1 D.hA.1 D.hA.2.1 D.hA.2.2 ev10
  have hAt : AtRecv' P (σ' a).blk D.z gR := recv_at hv0 D.hv0.1 hnk hrr hree
  have hop : OpenCh w8 (σ' a).blk := C8a.heap
  have hchild := child_walk (P := P) ok (c := (σ' a).blk) (e := (σ' b).blk) D.hfnT D.hbodyT D.hresT D.hleT D.hG (fun σ => by simp [sE] : Closedv sE) D.hevT D.hdfT w8
  refine wn_fork (F0 := F8.less (σ' a).blk) rfl (fun w1 h1 => go_step (o := D.q3) (by rw [D.ho3]; rfl) D.hq3.1 hnk hgo rfl w1) hop hsl hAt hchild (fun x hx => ?_) (fun _ hx => hx.1) rfl fun w9 r9 => ?_
  · rcases hx with hx | hx
    · exact ⟨R8.hr.mine x hx.1, hx.2⟩
    · exact ⟨(R8.hr.ro x hx).1, fun e => (R8.hr.ro x hx).2 (e ▸ C8a.mine)⟩
  · -- behind the receive
    show Wn P Post w0 (F8.less (σ' a).blk) (Go.Conc.served (core gR) (.tuple #[D.z, .bool false])) w9
    have eserv : Go.Conc.served (core gR) (.tuple #[D.z, .bool false]) = G (bf.at (a10.put (some D.d15) (.tuple #[D.z, .bool false])) (.inRegion D.o5 (List.range' 1 (D.o5.toList.drop 1).length) :: k5)) (c :: cs) := by
      show G ((bf.at a10 (.inRegion D.o5 (0 :: List.range' 1 (D.o5.toList.drop 1).length) :: k5)).finish _) (c :: cs) = _
      rw [Frame.finish_at, hv0]
      show G (bf.at (a10.put D.v0.dst _) _) _ = _
      rw [D.hv0.2.2]
    rw [eserv]
    have R9 : Rel P env bf σ8 ⟨tput (tput (tput (tput (tput (D.tm3 a b) D.d11 sE) D.d12 (.chan (some a))) D.d13 (.chan (some b))) D.d14 (.chan (some a))) D.d15 (.tuple #[D.z, .bool false]), D.nt, H, nx + 2, closeD D.ats D.ty D.ks b, .no⟩ (a10.put (some D.d15) (.tuple #[D.z, .bool false])) (F8.less (σ' a).blk) w9 (fun _ => c :: cs) := by
      have h1 : Rel P env bf σ8 ⟨tput (tput (tput (D.tm3 a b) D.d11 sE) D.d12 (.chan (some a))) D.d13 (.chan (some b)), D.nt, H, nx + 2, closeD D.ats D.ty D.ks b, .no⟩ a9 (F8.less (σ' a).blk) w9 (fun _ => c :: cs) := by rw [e9]; exact (R8.less C8a.nimg).rely r9
      have h2 := h1.put (d := some D.d14) (v := .chan (some a)) (fun s1 s2 hs => by simp [hs a ha]) (fun t e => by cases e; exact hl14)
      rw [ren_chan, hsa] at h2
      have h3 := h2.put (d := some D.d15) (v := .tuple #[D.z, .bool false]) (sc_tuple fun v hv => by
        have : v = D.z ∨ v = .bool false := by simpa using hv
        rcases this with rfl | rfl
        · exact D.hz.sc _
        · exact sc_bool _ _) (fun t e => by cases e; exact hl15)
      have ez : ren σ8 (.tuple #[D.z, .bool false]) = .tuple #[D.z, .bool false] := by simp [D.hz σ8]
      rw [ez] at h3
      exact h3
    have C9 : ChIs σ8 H (F8.less (σ' a).blk) w9 (σ8 b).blk := by
      rw [hsb]
      exact ⟨⟨C8b.mine, Ne.symm hab⟩, C8b.nimg, by show w9.heap[_]? = _; rw [r9.block _ (.inl ⟨C8b.mine, Ne.symm hab⟩)]; exact C8b.heap⟩
    refine dec_tail D ok hbf hbn R9 C9 hb fun σ10 F10 w10 h1 h2 h3 h4 h5 h6 => ?_
    have e10 : ren σ10 decRes = decRes := by simp [decRes]
    rw [← e10]
    have hall := hre.trans rr8
    refine hend σ10 F10 w10 ⟨hall.agree.trans h1 hall.le, Nat.le_add_right _ _, ?_⟩ h6 (decRes_sc _)
    rw [hsb] at h2 h4
    have hxa : ∀ x, F.mine x → x ≠ (σ' a).blk ∧ x ≠ (σ' b).blk := fun x hx => by have := hF x hx; omega
    refine ⟨?_, fun x hx => h2 x ⟨hall.keeps.mine x hx, (hxa x hx).1⟩ (hxa x hx).2, h3.trans hall.keeps.ro, fun x hx hi => ?_⟩
    · have s1 := hall.keeps.size
      have s2 := r9.size
      omega
    · obtain ⟨k1, k2⟩ := hall.keeps.kept x hx hi
      obtain ⟨k3, k4⟩ := h4 x ⟨hall.keeps.mine x hx, (hxa x hx).1⟩ (hxa x hx).2 k1
      refine ⟨k3, ?_⟩
      rw [k4, r9.block x (.inl ⟨hall.keeps.mine x hx, (hxa x hx).1⟩), k2]

/-- The contract. -/
theorem dec_con (D : DecFacts P env fD fT) (ok : EnvOk P env) {σ : Sub} {H : AHeap} {nx : Nat} {F : Foot} {w : World} {c : Frame} {cs : List Frame} (hh : HR P env.G σ H nx F w) (hnx : nx + 2 ≤ 2 ^ HD) (hend : DecEnd P env Post w0 σ H nx F w c cs) :
    Wn P Post w0 F (G (Frame.enter P fD ([sE].map (ren σ)).toArray .normal) (c :: cs)) w := by
  have C : Closed P true (Wn P Post w0) := wn_closed
  have snd := sound C ok (conOk_none (W := Wn P Post w0)) D.n
  obtain ⟨hlA, hlB, hl5, hl6, _⟩ := D.hlt
  obtain ⟨nAB, nA5, nA6, nB5, nB6, n56⟩ := D.hne
  have hle := D.hle
  obtain ⟨hf, _⟩ := ok.fn fD D.fn D.hfn
  obtain ⟨a0, ea, R0⟩ := enter_rel ok (args := [sE]) D.hfn D.hB (by rw [D.hnt]; exact hle) (kind := .normal) (rc := .no) (csf := fun _ => c :: cs) (.inl rfl) hh (fun v hv => by
    have : v = sE := by simpa using hv
    rw [this]; exact fun _ _ _ => by simp [sE]) (fun fr hk => by simp [tryRecover, hk])
  rw [ea]
  rw [D.hnt] at R0
  let bf : Frame := baseK fD .normal
  refine C.quiet (fun w => stepG_seq) fun w1 r1 => ?_
  refine snd.code _ _ _ _ (D.h0 H nx) bf a0 _ σ F w1 (fun _ => c :: cs) (R0.rely r1) fun σ1 a1 F1 w1' re1 R1 => ?_
  refine C.quiet (fun w => stepG_seq) fun w2 r2 => ?_
  refine C.step _ _ _ rfl fun w3 r3 => ⟨_, _, _, stepG_draw, ⟨diff_drawn _ _ _ _, by simp⟩, ?_⟩
  have hgw : F1.grow w3.heap.size ({ w3 with drawn := w3.drawn + 1 } : World).heap.size = F1 := grow_self F1 _
  rw [hgw, ok.mixed]
  generalize w3.tape w3.drawn (.order (baseK fD .normal).fn D.i1) = tp
  have R3 : Rel P env bf σ1 ⟨D.tm1, D.nt, H, nx, [], .no⟩ a1 F1 { w3 with drawn := w3.drawn + 1 } (fun _ => c :: cs) := by
    have R := ((R1.rely r2).rely r3)
    exact ⟨⟨R.size, R.nt, R.df, R.dfs, R.kind, R.hr.drawn _, R.rc⟩, R.tmp⟩
  have re3 : Reach σ H nx F w σ1 H nx F1 { w3 with drawn := w3.drawn + 1 } :=
    ((Reach.rely r1).trans re1).trans (((Reach.rely r2).trans (Reach.rely r3)).trans ⟨Agree.refl _ _, Nat.le_refl _, ⟨Nat.le_refl _, fun _ h => h, rfl, fun x _ h => ⟨h, rfl⟩⟩⟩)
  generalize ({ w3 with drawn := w3.drawn + 1 } : World) = w4 at R3 re3
  have l256 : ∀ {t : Nat}, t < D.nt → t < 256 := fun h => Nat.lt_of_lt_of_le h hle
  have hFsize : ∀ x, F.mine x → x < w.heap.size := hh.mine
  have hg0 : D.o1[0]? = some D.p0 := by rw [D.ho1]; rfl
  have hg1 : D.o1[1]? = some D.p1 := by rw [D.ho1]; rfl
  have hg2 : D.o1[2]? = some D.p2 := by rw [D.ho1]; rfl
  have hg3 : D.o1[3]? = some D.p3 := by rw [D.ho1]; rfl
  -- an assignment
  have asg : ∀ {o : Oper} {i : Nat} {rest : List Nat} {k : List Item} {s d : Tmp} {v : Value} {tm : ATmp} {σa : Sub} {nxa : Nat} {aa : Act} {Fa : Foot} {wa : World}, D.o1[i]? = some o → o.guard = none → o.op = .assign (.tmp s) → o.dst = some d → s < D.nt → d < D.nt → tget tm s = v →
      Rel P env bf σa ⟨tm, D.nt, H, nxa, [], .no⟩ aa Fa wa (fun _ => c :: cs) →
      (∀ σb ab Fb wb, Reach σa H nxa Fa wa σb H nxa Fb wb → Rel P env bf σb ⟨tput tm d v, D.nt, H, nxa, [], .no⟩ ab Fb wb (fun _ => c :: cs) → Wn P Post w0 Fb (G (bf.at ab (.inRegion D.o1 rest :: k)) (c :: cs)) wb) →
      Wn P Post w0 Fa (G (bf.at aa (.inRegion D.o1 (i :: rest) :: k)) (c :: cs)) wa := by
    intro o i rest k s d v tm σa nxa aa Fa wa h1 h2 h3 h4 h5 h6 h7 hR hk
    refine one_step C ok (o := o) (v := v) h1 h2 (by rw [h3, assign_eff h5, h7]) (fun t e => by rw [h4] at e; cases e; exact h6) hR fun σb ab Fb wb rb Rb => ?_
    rw [h4] at Rb
    exact hk σb ab Fb wb rb Rb
  have mkA : ∀ {rest : List Nat} {k : List Item} {tm : ATmp} {σa : Sub} {nxa : Nat} {aa : Act} {Fa : Foot} {wa : World}, nxa < 2 ^ HD → Rel P env bf σa ⟨tm, D.nt, H, nxa, [], .no⟩ aa Fa wa (fun _ => c :: cs) →
      (∀ σb ab Fb wb, Reach σa H nxa Fa wa σb H (nxa + 1) Fb wb → Rel P env bf σb ⟨tput tm D.dA (.chan (some nxa)), D.nt, H, nxa + 1, [], .no⟩ ab Fb wb (fun _ => c :: cs) → wa.heap.size ≤ (σb nxa).blk → ChIs σb H Fb wb (σb nxa).blk → Wn P Post w0 Fb (G (bf.at ab (.inRegion D.o1 rest :: k)) (c :: cs)) wb) →
      Wn P Post w0 Fa (G (bf.at aa (.inRegion D.o1 (0 :: rest) :: k)) (c :: cs)) wa := fun hlt hR hk => mk_step C hg0 D.hp0.1 D.hp0.2.1 D.hA.1 D.hA.2.1 D.hp0.2.2 hlA hlt hR hk
  have mkB : ∀ {rest : List Nat} {k : List Item} {tm : ATmp} {σa : Sub} {nxa : Nat} {aa : Act} {Fa : Foot} {wa : World}, nxa < 2 ^ HD → Rel P env bf σa ⟨tm, D.nt, H, nxa, [], .no⟩ aa Fa wa (fun _ => c :: cs) →
      (∀ σb ab Fb wb, Reach σa H nxa Fa wa σb H (nxa + 1) Fb wb → Rel P env bf σb ⟨tput tm D.dB (.chan (some nxa)), D.nt, H, nxa + 1, [], .no⟩ ab Fb wb (fun _ => c :: cs) → wa.heap.size ≤ (σb nxa).blk → ChIs σb H Fb wb (σb nxa).blk → Wn P Post w0 Fb (G (bf.at ab (.inRegion D.o1 rest :: k)) (c :: cs)) wb) →
      Wn P Post w0 Fa (G (bf.at aa (.inRegion D.o1 (1 :: rest) :: k)) (c :: cs)) wa := fun hlt hR hk => mk_step C hg1 D.hp1.1 D.hp1.2.1 D.hBB.1 D.hBB.2 D.hp1.2.2 hlB hlt hR hk
  have hx1 : nx < 2 ^ HD := by omega
  have hx2 : nx + 1 < 2 ^ HD := by omega
  rcases D.orders tp with e | e | e
  · rw [e]
    refine mkA hx1 R3 fun σ4 a4 F4 w5 r4 R4 hl4 C4 => ?_
    refine mkB hx2 R4 fun σ5 a5 F5 w6 r5 R5 hl5' C5 => ?_
    refine asg hg2 D.hp2.1 D.hp2.2.1 D.hp2.2.2 hlA hl5 (v := .chan (some nx)) (by rw [tget_tput (l256 hlB) (l256 hlA), if_neg (Ne.symm nAB), tget_tput (l256 hlA) (l256 hlA), if_pos rfl]) R5 fun σ6 a6 F6 w7 r6 R6 => ?_
    refine asg hg3 D.hp3.1 D.hp3.2.1 D.hp3.2.2 hlB hl6 (v := .chan (some (nx + 1))) (by rw [tget_tput (l256 hl5) (l256 hlB), if_neg (Ne.symm nB5), tget_tput (l256 hlB) (l256 hlB), if_pos rfl]) R6 fun σ7 a7 F7 w8 r7 R7 => ?_
    have r57 := (r5.trans r6).trans r7
    have r67 := r6.trans r7
    have s4 : σ7 nx = σ4 nx := (r57.agree nx (by omega)).symm
    have s5 : σ7 (nx + 1) = σ5 (nx + 1) := (r67.agree (nx + 1) (by omega)).symm
    have c4 := C4.reach r57
    have c5 := C5.reach r67
    have hlt4 : (σ4 nx).blk < w5.heap.size := lt_of_get C4.heap
    have hsz := re3.keeps.size
    have hsz4 := r4.keeps.size
    exact dec_mid D ok (a := nx) (b := nx + 1) rfl hf hFsize hend (((re3.trans r4).trans r5).trans r67) R7 (by rw [s4]; exact c4) (by rw [s5]; exact c5) (by omega) (by omega) (by rw [s4, s5]; omega) (by rw [s4]; omega) (by rw [s5]; omega)
  · rw [e]
    refine mkB hx1 R3 fun σ4 a4 F4 w5 r4 R4 hl4 C4 => ?_
    refine mkA hx2 R4 fun σ5 a5 F5 w6 r5 R5 hl5' C5 => ?_
    refine asg hg2 D.hp2.1 D.hp2.2.1 D.hp2.2.2 hlA hl5 (v := .chan (some (nx + 1))) (by rw [tget_tput (l256 hlA) (l256 hlA), if_pos rfl]) R5 fun σ6 a6 F6 w7 r6 R6 => ?_
    refine asg hg3 D.hp3.1 D.hp3.2.1 D.hp3.2.2 hlB hl6 (v := .chan (some nx)) (by rw [tget_tput (l256 hl5) (l256 hlB), if_neg (Ne.symm nB5), tget_tput (l256 hlA) (l256 hlB), if_neg nAB, tget_tput (l256 hlB) (l256 hlB), if_pos rfl]) R6 fun σ7 a7 F7 w8 r7 R7 => ?_
    have r57 := (r5.trans r6).trans r7
    have r67 := r6.trans r7
    have s4 : σ7 nx = σ4 nx := (r57.agree nx (by omega)).symm
    have s5 : σ7 (nx + 1) = σ5 (nx + 1) := (r67.agree (nx + 1) (by omega)).symm
    have c4 := C4.reach r57
    have c5 := C5.reach r67
    have hlt4 : (σ4 nx).blk < w5.heap.size := lt_of_get C4.heap
    have hsz := re3.keeps.size
    have hsz4 := r4.keeps.size
    refine dec_mid D ok (a := nx + 1) (b := nx) rfl hf hFsize hend (((re3.trans r4).trans r5).trans r67) (R7.tmEq fun t ht => ?_) (by rw [s5]; exact c5) (by rw [s4]; exact c4) (by omega) (by omega) (by rw [s4, s5]; omega) (by rw [s5]; omega) (by rw [s4]; omega)
    exact tput_congr (l256 hl6) (l256 ht) (tput_congr (l256 hl5) (l256 ht) (tput_comm (l256 hlA) (l256 hlB) (l256 ht) nAB))
  · rw [e]
    refine mkA hx1 R3 fun σ4 a4 F4 w5 r4 R4 hl4 C4 => ?_
    refine asg hg2 D.hp2.1 D.hp2.2.1 D.hp2.2.2 hlA hl5 (v := .chan (some nx)) (by rw [tget_tput (l256 hlA) (l256 hlA), if_pos rfl]) R4 fun σ6 a6 F6 w7 r6 R6 => ?_
    refine mkB hx2 R6 fun σ5 a5 F5 w6 r5 R5 hl5' C5 => ?_
    refine asg hg3 D.hp3.1 D.hp3.2.1 D.hp3.2.2 hlB hl6 (v := .chan (some (nx + 1))) (by rw [tget_tput (l256 hlB) (l256 hlB), if_pos rfl]) R5 fun σ7 a7 F7 w8 r7 R7 => ?_
    have r57 := (r6.trans r5).trans r7
    have s4 : σ7 nx = σ4 nx := (r57.agree nx (by omega)).symm
    have s5 : σ7 (nx + 1) = σ5 (nx + 1) := (r7.agree (nx + 1) (by omega)).symm
    have c4 := C4.reach r57
    have c5 := C5.reach r7
    have hlt4 : (σ4 nx).blk < w5.heap.size := lt_of_get C4.heap
    have hsz := re3.keeps.size
    have hsz4 := r4.keeps.size
    have hsz6 := r6.keeps.size
    refine dec_mid D ok (a := nx) (b := nx + 1) rfl hf hFsize hend (((re3.trans r4).trans r6).trans (r5.trans r7)) (R7.tmEq fun t ht => ?_) (by rw [s4]; exact c4) (by rw [s5]; exact c5) (by omega) (by omega) (by rw [s4, s5]; omega) (by rw [s4]; omega) (by rw [s5]; omega)
    exact tput_congr (l256 hl6) (l256 ht) (tput_comm (l256 hlB) (l256 hl5) (l256 ht) nB5)
end
end Go.Proofs.Evz

/-
  ENGINE 38. Contracts put together.
-/
namespace Go.Proofs.Evz
open Go Go.Conc

def orK (a b : Con) : Con := fun f vs H nx => match a f vs H nx with
  | some r => some r
  | none => b f vs H nx

noncomputable def decK (fD : FuncId) : Con := fun f vs H nx =>
  bif Nat.beq f fD && leq (veq 8) vs [sE] && Nat.ble (nx + 2) (2 ^ HD) then some (decRes, H, nx + 2) else none

section
variable {P : Program} {env : Env} {Post : Value → World → Prop} {w0 : World}

theorem conOk_or {W : Foot → Goroutine → World → Prop} {a b : Con} (ha : ConOk P env W a) (hb : ConOk P env W b) : ConOk P env W (orK a b) := by
  intro f vs H nx v H' nx' h
  unfold orK at h
  split at h
  · rename_i r e
    cases h
    exact ha f vs H nx v H' nx' e
  · exact hb f vs H nx v H' nx' h

theorem conOk_cr (ok : EnvOk P env) {K0 : Con} (hK : ConOk P env (Wn P Post w0) K0) {c : CR} (hc : CROk P env c) {n : Nat} (hev : crB c (ev env K0 n (.call c.f c.vs) ⟨.nil, 0, c.Hs, c.nxs, [], .no⟩) = true)
    {fn : Func} (hfn : env.fn c.f = some fn) (hb : fn.body.isSome = true) : ConOk P env (Wn P Post w0) (crK c) := by
  intro f vs H nx v H' nx' h σ F w hh hs
  refine .inr ⟨?_, fun fr cs hend hro => ?_⟩
  · unfold crK at h
    cases hb' : (Nat.beq f c.f && leq (veq 8) vs c.vs && Nat.ble c.nxs nx && Nat.ble (nx + (c.nxs' - c.nxs)) (2 ^ HD) && c.ids.all (fun i => objEq (c.Hs.at i) (H.at i))) with
    | false => rw [hb'] at h; cases h
    | true =>
      simp only [Bool.and_eq_true] at hb'
      obtain ⟨h1, h2⟩ := ok.fn c.f fn hfn
      exact ⟨fn, by rw [Nat.eq_of_beq_eq_true hb'.1.1.1.1]; exact h1, h2, hb⟩
  · exact con_merge wn_closed ok hK hc hev h hh hro (fun F g w h hx => h hx hx) fr cs hend hro

theorem conOk_dec {fD fT : FuncId} (D : DecFacts P env fD fT) (ok : EnvOk P env) : ConOk P env (Wn P Post w0) (decK fD) := by
  intro f vs H nx v H' nx' h σ F w hh hs
  unfold decK at h
  cases hb' : (Nat.beq f fD && leq (veq 8) vs [sE] && Nat.ble (nx + 2) (2 ^ HD)) with
  | false => rw [hb'] at h; cases h
  | true =>
    rw [hb'] at h
    simp only [cond_true, Option.some.injEq, Prod.mk.injEq] at h
    obtain ⟨rfl, rfl, rfl⟩ := h
    simp only [Bool.and_eq_true] at hb'
    obtain ⟨⟨h1, h2⟩, h3⟩ := hb'
    have e1 := Nat.eq_of_beq_eq_true h1
    have e2 := leq_ok (veq_ok 8) h2
    subst e1; subst e2
    obtain ⟨g1, g2⟩ := ok.fn f D.fn D.hfn
    refine .inr ⟨⟨D.fn, g1, g2, by rw [D.hB]; rfl⟩, fun fr cs hend => ?_⟩
    exact dec_con D ok hh (ble_le h3) hend
end
end Go.Proofs.Evz

/-
  ENGINE 39. Two entries of the library's own: a byte in a string, a string in a string.
-/
namespace Go.Proofs.Evz
open Go Go.Conc

def idxL (c : Nat) : List UInt8 → Nat → Option Nat
  | [], _ => none
  | b :: t, i => bif Nat.beq b.toNat c then some i else idxL c t (i + 1)

theorem idxL_eq (l : List UInt8) (x : UInt8) : ∀ (t : List UInt8) (i : Nat), l.drop i = t → (List.range' i t.length).find? (fun j => l[j]! == x) = idxL x.toNat t i
  | [], i, _ => rfl
  | b :: t, i, h => by
    have hi : i < l.length := by
      rcases Nat.lt_or_ge i l.length with h' | h'
      · exact h'
      · rw [List.drop_eq_nil_of_le h'] at h; cases h
    have hb : l[i]! = b := by
      have := List.getElem_drop (xs := l) (i := i) (j := 0) (h := by rw [List.length_drop]; omega)
      rw [getElem!_pos l i hi]
      have e : (l.drop i)[0]? = some b := by rw [h]; rfl
      rw [List.getElem?_drop] at e
      simp only [Nat.add_zero] at e
      rw [List.getElem?_eq_getElem hi] at e
      exact Option.some.inj e
    have ht : l.drop (i + 1) = t := by
      have := congrArg List.tail h
      rwa [List.tail_drop, List.tail_cons] at this
    rw [List.length_cons, List.range'_succ, List.find?_cons, hb]
    show (match b == x with | true => some i | false => _) = bif Nat.beq b.toNat x.toNat then some i else idxL x.toNat t (i + 1)
    have e : (b == x) = Nat.beq b.toNat x.toNat := by
      rw [Bool.eq_iff_iff, beq_iff_eq, Nat.beq_eq]
      exact UInt8.toNat_inj.symm
    rw [e]
    cases Nat.beq b.toNat x.toNat with
    | true => rfl
    | false => exact idxL_eq l x t (i + 1) ht

theorem idxB_eq (l : List UInt8) (x : UInt8) : ((List.range (ByteArray.mk ⟨l⟩).size).find? fun i => (ByteArray.mk ⟨l⟩)[i]! == x) = idxL x.toNat l 0 := by
  have h := idxL_eq l x l 0 rfl
  rw [← List.range_eq_range'] at h
  rw [← h]
  have hs : (ByteArray.mk ⟨l⟩).size = l.length := rfl
  rw [hs]
  have hcg : ∀ (L : List Nat) (p q : Nat → Bool), (∀ i ∈ L, p i = q i) → L.find? p = L.find? q := by
    intro L p q hpq
    induction L with
    | nil => rfl
    | cons x t ih =>
      rw [List.find?_cons, List.find?_cons, hpq x (List.mem_cons_self ..), ih fun i hi => hpq i (List.mem_cons_of_mem _ hi)]
  refine hcg _ _ _ ?_
  intro i hi
  have hi' : i < l.length := by simpa using hi
  have h1 : (ByteArray.mk ⟨l⟩)[i]! = (ByteArray.mk ⟨l⟩)[i]'(by rw [hs]; exact hi') := getElem!_pos (ByteArray.mk ⟨l⟩) i (by rw [hs]; exact hi')
  rw [h1, getElem!_pos l i hi']
  rfl

def optI : Option Nat → Value
  | some i => .int .i64 (.ofNat i)
  | none => .int .i64 (.negSucc 0)

def idxK (fi : FuncId) : Con := fun f vs H nx =>
  bif Nat.beq f fi then
    match vs with
    | [.string ⟨⟨l⟩⟩, .int .u8 (.ofNat c)] => bif Nat.blt c 256 then some (optI (idxL c l 0), H, nx) else none
    | _ => none
  else none

section
variable {P : Program} {env : Env} {W : Foot → Goroutine → World → Prop}

theorem sat_extern {F : Foot} {n : Nat} {f : FuncId} {fn : Func} {args : Array Value} {e : Array Value → Sem Value} {w : World} {Q : Next → World → Prop} {E : Value → World → Prop}
    (hf : P.funcs[f]? = some fn) (hn : (fn.name == "runtime.NumGoroutine") = false) (hb : fn.body = none) (hx : Extern.findNext fn = none) (he : Extern.find fn = some e)
    (h : Sat P F n (e args) w (fun v w => Q (.value v) w) E) : Sat P F n (callFunc f args) w Q E := by
  refine sat_bind' (sat_program ?_)
  show Sat P F n (match P.funcs[f]? with | none => _ | some fn => _) w Q E
  rw [hf]
  simp only [hn, hb, Bool.false_eq_true, if_false, Option.isNone_none, if_true]
  refine sat_bind' ⟨.inr ⟨f, rfl⟩, ?_⟩
  simp only [hx, he]
  show Sat P F n (e args >>= fun v => pure (Next.value v)) w Q E
  exact sat_bind' (sat_mono _ h (fun _ _ h => h) fun _ _ h => h)

theorem post_same {σ : Sub} {H : AHeap} {nx : Nat} {F : Foot} {w : World} {v : Value} (hh : HR P env.G σ H nx F w) (hv : Closedv v) : Post P env.G σ H nx F w v H nx v w :=
  ⟨σ, Agree.refl _ _, Nat.le_refl _, (hv σ).symm, hv.sc _, by rw [grow_self]; exact hh, by rw [grow_self]; exact Keeps.refl⟩

theorem optI_closed (o : Option Nat) : Closedv (optI o) := by cases o <;> exact fun σ => by simp [optI]

theorem conOk_idx {fi : FuncId} {fn : Func} (hf : P.funcs[fi]? = some fn) (hn : (fn.name == "runtime.NumGoroutine") = false) (hb : fn.body = none) (hx : Extern.findNext fn = none) (he : Extern.find fn = some Extern.BytealgIndexByte.indexByte) : ConOk P env W (idxK fi) := by
  intro f vs H nx v H' nx' h σ F w hh hs
  unfold idxK at h
  cases hb' : Nat.beq f fi with
  | false => rw [hb'] at h; cases h
  | true =>
    rw [hb'] at h
    simp only [cond_true] at h
    split at h
    · rename_i l c
      cases hc : Nat.blt c 256 with
      | false => rw [hc] at h; cases h
      | true =>
        rw [hc] at h
        simp only [cond_true, Option.some.injEq, Prod.mk.injEq] at h
        obtain ⟨rfl, rfl, rfl⟩ := h
        have e1 := Nat.eq_of_beq_eq_true hb'
        subst e1
        refine .inl (sat_extern hf hn hb hx he ?_)
        have hc' := blt_lt hc
        simp only [List.map_cons, List.map_nil, ren_string, ren_int]
        show Sat P F _ (match (List.range (ByteArray.mk ⟨l⟩).size).find? (fun i => (ByteArray.mk ⟨l⟩)[i]! == c.toUInt8) with | some i => pure (goInt i) | none => pure (goInt (-1))) w _ _
        rw [idxB_eq]
        have hcc : (c.toUInt8).toNat = c := by
          show c % 256 = c
          exact Nat.mod_eq_of_lt hc'
        rw [hcc]
        cases idxL c l 0 with
        | none => exact ⟨_, rfl, post_same hh (optI_closed none)⟩
        | some i => exact ⟨_, rfl, post_same hh (optI_closed (some i))⟩
    · cases h

/-- One string in one other: what is found is given. -/
noncomputable def leM (n : Nat) : Option AObj → Bool
  | some (.cells _ [.int .i64 (.ofNat m)] _ _) => Nat.ble n m
  | _ => false
noncomputable def subK (fi g : Nat) (a b : ByteArray) (r : Option Nat) : Con := fun f vs H nx =>
  bif Nat.beq f fi && leq (veq 8) vs [.string a, .string b] && leM b.size (H.at g) then some (optI r, H, nx) else none

theorem conOk_sub {fi g : Nat} {fn : Func} {a b : ByteArray} {r : Option Nat} (hf : P.funcs[fi]? = some fn) (hn : (fn.name == "runtime.NumGoroutine") = false) (hb : fn.body = none) (hx : Extern.findNext fn = none) (he : Extern.find fn = some Extern.BytealgIndex.index)
    (hg : P.globals.findIdx? (·.name == "internal/bytealg.MaxLen") = some g) (hG : g < env.G) (hb2 : 2 ≤ b.size) (ha : a.size < 2 ^ 32 - 15) (hr : ((List.range (a.size + 1 - b.size)).find? fun i => a.extract i (i + b.size) == b) = r) : ConOk P env W (subK fi g a b r) := by
  intro f vs H nx v H' nx' h σ F w hh hs
  unfold subK at h
  cases hb' : (Nat.beq f fi && leq (veq 8) vs [.string a, .string b] && leM b.size (H.at g)) with
  | false => rw [hb'] at h; cases h
  | true =>
    rw [hb'] at h
    simp only [cond_true, Option.some.injEq, Prod.mk.injEq] at h
    obtain ⟨rfl, rfl, rfl⟩ := h
    simp only [Bool.and_eq_true] at hb'
    obtain ⟨⟨h1, h2⟩, h3⟩ := hb'
    have e1 := Nat.eq_of_beq_eq_true h1
    have e2 := leq_ok (veq_ok 8) h2
    subst e1; subst e2
    unfold leM at h3
    split at h3
    · rename_i t m gr ro ho
      have hle := ble_le h3
      have hglob := hh.glob
      have hgt : g < 2 ^ HD := Nat.lt_of_lt_of_le (Nat.lt_of_lt_of_le hG hglob.1) hh.top
      obtain ⟨_, c, fr, g1, g2, g3, g4, g5, g6, g7⟩ := hh.live g _ hgt ho
      rw [hglob.2 g hG] at g1 g2 g3 g7
      have hc0 := g3 0 (by simp)
      simp only [Nat.add_zero, List.getElem?_cons_zero, Option.map_some, ren_int] at hc0
      refine .inl (sat_extern hf hn hb hx he ?_)
      simp only [List.map_cons, List.map_nil, ren_string]
      show Sat P F _ (Sem.bind (Sem.bind (Sem.bind (Sem.pure P) _) _) _) w _ _
      refine sat_bind _ _ (sat_bind _ _ (sat_bind _ _ ?_))
      dsimp only [Sat]
      rw [hg]
      have hle2 : ¬ ((decide (b.size < 2) || decide (((b.size : Nat) : Int) > Int.ofNat m)) = true) := by
        simp only [Bool.or_eq_true, decide_eq_true_eq, not_or]
        constructor
        · omega
        · show ¬ (Int.ofNat m < (b.size : Int))
          have : Int.ofNat m = (m : Int) := rfl
          omega
      refine ⟨.int .i64 (.ofNat m), ?_, ?_, ?_⟩
      · simp [World.cell?, g1, hc0]
      · cases ro
        · exact .inl (.inl g7)
        · exact .inr g7
      · show Sat P F _ (if (decide (b.size < 2) || decide (((b.size : Nat) : Int) > Int.ofNat m)) = true then _ else _) w _ _
        rw [if_neg hle2]
        show Sat P F _ (if a.size ≥ 2 ^ 32 - 15 then _ else _) w _ _
        rw [if_neg (by omega)]
        show Sat P F _ (match List.find? (fun i => a.extract i (i + b.size) == b) (List.range (a.size + 1 - b.size)) with | some i => pure (goInt i) | none => pure (goInt (-1))) w _ _
        rw [hr]
        cases r with
        | none => exact ⟨_, rfl, post_same hh (optI_closed none)⟩
        | some i => exact ⟨_, rfl, post_same hh (optI_closed (some i))⟩
    · cases h3
end
end Go.Proofs.Evz

/-
  ENGINE 40. A channel with room for one, and a select of one receive with a default that finds it empty.
-/
namespace Go.Proofs.Evz
open Go Go.Conc

def EmptyCh (w : World) (c : Nat) : Prop := w.heap[c]? = some (.chan 1 #[] false 0 0 false)

section
variable {P : Program} {Post : Value → World → Prop} {env : Env}

theorem w1_default {F : Foot} {a g₂ : Goroutine} {w : World} {c : Nat} {z : Value} (ha : a.status = .running) (hch : EmptyCh w c)
    (hst : ∀ w₁, EmptyCh w₁ c → stepG P true a w₁ = .comm g₂ #[rcase c z] false .select w₁ #[])
    (h : ∀ w₁, AtRel w w₁ → W1 P Post F (g₂.finishComm P #[rcase c z] .select (-1) undef false) w₁) : W1 P Post F a w :=
  w1_intro ha fun gs w₁ sl t q h0 hr hL hT => by
    have hh : w₁.heap = w.heap := atRel_heap hr
    have hc1 : EmptyCh w₁ c := by show w₁.heap[c]? = _; rw [hh]; exact hch
    have hlt : 0 < gs.size := (Array.getElem?_eq_some_iff.1 h0).1
    have hrun := crowd_default (P := P) (sl := sl) (i := 0) h0 (show stepG P (0 == 0) a w₁ = _ from hst w₁ hc1) (fun cc hcc => by
      simp only [List.mem_toArray, List.mem_cons, List.not_mem_nil, or_false] at hcc
      subst hcc
      exact ways_recv_none hc1 (no_senders (fun j g hj hg => quits_status (hL j g hj hg)) c))
    refine .inr ⟨_, _, hrun, ?_⟩
    rw [ofEvents_none, Array.append_empty]
    refine h w₁ hr _ w₁ sl t q (by simp [hlt]) (atRel_refl _) (fun j x hj hx => ?_) hT
    rw [Array.getElem?_setIfInBounds_ne (by omega)] at hx
    exact hL j x hj hx

theorem wn_default {w0 : World} {F : Foot} {a g₂ : Goroutine} {w : World} {c : Nat} {z : Value} (ha : a.status = .running) (hch : EmptyCh w c)
    (hst : ∀ w₁, EmptyCh w₁ c → stepG P true a w₁ = .comm g₂ #[rcase c z] false .select w₁ #[])
    (h : ∀ w₁, AtRel w w₁ → Wn P Post w0 F (g₂.finishComm P #[rcase c z] .select (-1) undef false) w₁) : Wn P Post w0 F a w :=
  fun hfix => w1_default ha hch hst fun w₁ r => h w₁ r (hfix.rely (fun _ h => h) rfl (atRel_rely r F))

structure ChI1 (σ : Sub) (H : AHeap) (F : Foot) (w : World) (B : Nat) : Prop where
  mine : F.mine B
  nimg : ¬ Img σ H B
  heap : EmptyCh w B
theorem ChI1.reach {σ σ' : Sub} {H H' : AHeap} {nx nx' : Nat} {F F' : Foot} {w w' : World} {B : Nat} (h : ChI1 σ H F w B) (r : Reach σ H nx F w σ' H' nx' F' w') : ChI1 σ' H' F' w' B := by
  obtain ⟨h1, h2⟩ := r.keeps.kept B h.mine h.nimg
  exact ⟨r.keeps.mine B h.mine, h1, by show w'.heap[B]? = _; rw [h2]; exact h.heap⟩

theorem sat_makeChan1 {t el : TypeId} {dir : ChanDir} {i : TypeInfo} {F : Foot} {n : Nat} {w : World} {Q : Value → World → Prop} {E : Value → World → Prop} (h1 : P.underlying t = some (.chan dir el)) (h2 : P.info? el = some i) (h3 : i.bytes < 2 ^ 40)
    (hq : Q (.chan (some w.heap.size)) { w with heap := w.heap.push (.chan 1 #[] false 0 0 false) }) : Sat P F n (Instr.makeChan t (.int .i64 1)) w Q E := by
  refine sat_bind' (sat_pure (sat_bind' (sat_und h1 ?_)))
  refine sat_bind' (sat_info h2 ?_)
  show Sat P F n (if ((1 : Int) < 0 ∨ (1 : Int) > IntKind.i64.max ∨ (i.bytes : Int) * (1 : Int) > 2 ^ 48 - 112) then _ else _) w Q E
  rw [if_neg (by
    have h4 : ((2 : Int) ^ 48 - 112) = 281474976710544 := by decide
    have h5 : (2 : Nat) ^ 40 = 1099511627776 := by decide
    have h6 : (1 : Int) ≤ IntKind.i64.max := by decide
    rw [h4]
    omega)]
  exact hq

theorem mk1_step {main : Bool} {W : Foot → Goroutine → World → Prop} (C : Closed P main W) {b : Frame} {a : Act} {k : List Item} {σ : Sub} {F : Foot} {w : World} {csf : RC → List Frame} {S : St} {ops : Array Oper} {i : Nat} {rest : List Nat} {o : Oper} {t el : TypeId} {dir : ChanDir} {ti : TypeInfo} {d : Tmp}
    (ho : ops[i]? = some o) (hg : o.guard = none) (hop : o.op = .makeChan t (.const (.int .i64 1))) (h1 : P.underlying t = some (.chan dir el)) (h2 : P.info? el = some ti) (h3 : ti.bytes < 2 ^ 40) (hdst : o.dst = some d) (hd : d < S.nt) (htop : S.nx < 2 ^ HD) (hR : Rel P env b σ S a F w csf)
    (hk : ∀ σ' a' F' w', Reach σ S.H S.nx F w σ' S.H (S.nx + 1) F' w' → Rel P env b σ' ⟨tput S.tm d (.chan (some S.nx)), S.nt, S.H, S.nx + 1, S.df, S.rc⟩ a' F' w' csf → w.heap.size ≤ (σ' S.nx).blk → ChI1 σ' S.H F' w' (σ' S.nx).blk →
      W F' (G (b.at a' (.inRegion ops rest :: k)) (csf S.rc)) w') :
    W F (G (b.at a (.inRegion ops (i :: rest) :: k)) (csf S.rc)) w := by
  refine step_op C ho (by unfold Region.wanted; rw [hg]) hR.kind fun w₁ r => ?_
  have e : execOp a.eval o = (Instr.makeChan t (.int .i64 1) >>= fun v => pure (Next.value v)) := by
    unfold execOp
    rw [hop]
    rfl
  rw [e]
  refine sat_bind' (sat_makeChan1 h1 h2 h3 (sat_pure ?_))
  let w' : World := { w₁ with heap := w₁.heap.push (.chan 1 #[] false 0 0 false) }
  let F' := F.grow w₁.heap.size w'.heap.size
  let σ' : Sub := upd σ S.nx ⟨w₁.heap.size, 0, 0⟩
  have hσ : σ' S.nx = ⟨w₁.heap.size, 0, 0⟩ := upd_at _ _ _
  have hsz : w'.heap.size = w₁.heap.size + 1 := by simp [w']
  have R1 := hR.rely r
  have hold : ∀ x, x < w₁.heap.size → w'.heap[x]? = w₁.heap[x]? := fun x hx => by simp [w', Array.getElem?_push, Nat.ne_of_lt hx]
  have hnew : w'.heap[w₁.heap.size]? = some (.chan 1 #[] false 0 0 false) := by simp [w']
  have hfm : F'.mine w₁.heap.size := .inr ⟨Nat.le_refl _, by omega⟩
  have hr2 : HR P env.G σ S.H S.nx F' w' := R1.hr.world (fun x hx => hold x (hx.elim (R1.hr.mine x) fun h => (R1.hr.ro x h).1)) (fun _ h => .inl h) rfl (fun x hx => by rcases hx with hx | hx; exact Nat.lt_of_lt_of_le (R1.hr.mine x hx) (by omega); exact hx.2) (by omega)
    (fun x hx hm => by rcases hm with hm | hm; exact (R1.hr.ro x hx).2 hm; have := (R1.hr.ro x hx).1; omega)
  have himg : ∀ x, Img σ S.H x → x < w₁.heap.size := by
    rintro x ⟨id, o', hid, ho', rfl⟩
    rcases (R1.hr.live id o' hid ho').2.mineRo with h | h
    · exact R1.hr.mine _ h
    · exact (R1.hr.ro _ h).1
  have hk1 : Keeps σ S.H F w₁ σ S.H F' w' := ⟨by omega, fun _ h => .inl h, rfl, fun x hx hi => ⟨hi, hold x (R1.hr.mine x hx)⟩⟩
  have hr3 : HR P env.G σ' S.H (S.nx + 1) F' w' := hr2.ext (upd_agree _ _ _) (Nat.le_succ _) htop
  have hk3 : Keeps σ S.H F w₁ σ' S.H F' w' := hk1.trans (Keeps.ext hr2 (upd_agree _ _ _))
  have hre : Reach σ S.H S.nx F w σ' S.H (S.nx + 1) F' w' := (Reach.rely r).trans ⟨upd_agree _ _ _, Nat.le_succ _, hk3⟩
  have R2 := (R1.ext (upd_agree σ S.nx ⟨w₁.heap.size, 0, 0⟩) (Nat.le_succ _) hr3).put (d := some d) (v := .chan (some S.nx)) (fun σ1 σ2 hs => by simp [hs _ (Nat.lt_succ_self _)]) (fun t e => by cases e; exact hd)
  show W F' (G (b.at (a.put o.dst (.chan (some w₁.heap.size))) (.inRegion ops rest :: k)) (csf S.rc)) w'
  have hval : ren σ' (.chan (some S.nx)) = .chan (some w₁.heap.size) := by rw [ren_chan, hσ]
  have hb : (σ' S.nx).blk = w₁.heap.size := by rw [hσ]
  rw [hdst, ← hval]
  refine hk σ' _ F' w' hre R2 (by rw [hb]; exact r.size) ?_
  rw [hb]
  refine ⟨hfm, ?_, hnew⟩
  rintro ⟨id, o', hid, ho', e'⟩
  have hlt := (R1.hr.live id o' hid ho').1
  have : σ' id = σ id := (upd_agree σ S.nx _ id hlt).symm
  rw [this] at e'
  have := himg _ ⟨id, o', hid, ho', rfl⟩
  omega

theorem select_run {a : Act} {o : Oper} {el : TypeId} {ti : TypeInfo} {d : Tmp} {z : Value} {c : Nat} (hop : o.op = .select #[{ chan := .tmp d, send := none, elem := el }] false) (h2 : P.info? el = some ti) (hz : ti.zero = some z) (he : a.eval (.tmp d) = .chan (some c)) :
    (∀ w, (execOp a.eval o).run P w = .ok (.comm #[rcase c z] false .select) w) ∧ ∀ w, (execOp a.eval o).events P w #[] = #[] := by
  constructor
  · intro w
    unfold execOp
    rw [hop]
    simp [go_sem, zeroValue, typeInfo, h2, hz, rcase]
    simpa [Act.eval] using he
  · intro w
    unfold execOp
    rw [hop]
    simp [go_sem, zeroValue, typeInfo, h2, hz]
end
end Go.Proofs.Evz

/-
  ENGINE 41. A function that makes a channel with room for one, sends nothing, and selects with a default: its contract.
-/
namespace Go.Proofs.Evz
open Go Go.Conc

def mObj (tM id : Nat) : AObj := .cells tM [.pointer (some ⟨id, 0, none⟩), .slice none 0 0, .slice none 0 0] false false
noncomputable def mHeap (tM : Nat) : AHeap := AHeap.put .nil 7 (some (mObj tM 8))
def mArg : Value := .pointer (some ⟨7, 0, none⟩)
def noneSel (z : Value) : Value := .tuple #[.int .i64 (-1), .bool false, z]

structure ComFacts (P : Program) (env : Env) (fC : FuncId) where
  fn : Func
  R0 : Code
  C2 : Code
  R5 : Code
  E : Code
  i1 : Nat
  i6 : Nat
  o1 : Array Oper
  o6 : Array Oper
  n : Nat
  nt : Nat
  p0 : Oper
  p1 : Oper
  s0 : Oper
  tC : TypeId
  el : TypeId
  dir : ChanDir
  ti : TypeInfo
  t6 : Tmp
  t3 : Tmp
  t27 : Tmp
  t28 : Tmp
  z : Value
  tM : TypeId
  tm1 : ATmp
  tm2 : ATmp
  tm5 : ATmp
  tm6 : ATmp
  tm7 : ATmp
  hfn : env.fn fC = some fn
  hB : fn.body = some (.seq R0 (.seq (.region i1 o1 false) (.seq C2 (.seq R5 (.seq (.region i6 o6 false) E)))))
  hnt : [mArg].length + (fn.ntmps - [mArg].length) = nt
  hle : nt ≤ 256
  hG : env.G ≤ 7
  h0 : ev env KN n (.code R0) ⟨argTm [mArg] 0 .nil, nt, mHeap tM, 9, [], .no⟩ = some (.out .normal ⟨tm1, nt, mHeap tM, 9, [], .no⟩)
  ho1 : o1 = #[p0, p1]
  hp0 : p0.guard = none ∧ p0.op = .makeChan tC (.const (.int .i64 1)) ∧ p0.dst = some t6
  hp1 : p1.guard = none ∧ p1.op = .assign (.tmp t6) ∧ p1.dst = some t3
  hA : P.underlying tC = some (.chan dir el) ∧ P.info? el = some ti ∧ ti.zero = some z ∧ ti.bytes < 2 ^ 40
  hlt : t6 < nt ∧ t3 < nt ∧ t27 < nt ∧ t28 < nt
  h2 : ev env KN n (.code C2) ⟨tput (tput tm1 t6 (.chan (some 9))) t3 (.chan (some 9)), nt, mHeap tM, 10, [], .no⟩ = some (.out .normal ⟨tm2, nt, mHeap tM, 10, [], .no⟩)
  h5 : ev env KN n (.code R5) ⟨tm2, nt, mHeap tM, 10, [], .no⟩ = some (.out .normal ⟨tm5, nt, mHeap tM, 10, [], .no⟩)
  ho6 : o6.toList = s0 :: o6.toList.drop 1
  hs0 : s0.guard = none ∧ s0.op = .select #[{ chan := .tmp t27, send := none, elem := el }] false ∧ s0.dst = some t28
  g27 : tget tm5 t27 = .chan (some 9)
  hz : Closedv z
  h6 : ev env KN n (.ops o6 1 (o6.toList.drop 1)) ⟨tput tm5 t28 (noneSel z), nt, mHeap tM, 10, [], .no⟩ = some (.out .normal ⟨tm6, nt, mHeap tM, 10, [], .no⟩)
  h7 : ev env KN n (.code E) ⟨tm6, nt, mHeap tM, 10, [], .no⟩ = some (.out .ret ⟨tm7, nt, mHeap tM, 10, [], .no⟩)
  h8 : ev env KN n (.unwind fn none) ⟨tm7, nt, mHeap tM, 10, [], .no⟩ = some (.ret (.pointer none) (mHeap tM) 10 .no)

noncomputable def comK (fC tM : Nat) : Con := fun f vs H nx =>
  bif Nat.beq f fC then
    match vs with
    | [.pointer (some ⟨b, 0, none⟩)] => match H.at b with
      | some (.cells t [.pointer (some ⟨_, 0, none⟩), .slice none 0 0, .slice none 0 0] false false) => bif Nat.beq t tM && Nat.blt b nx then some (.pointer none, H, nx) else none
      | _ => none
    | _ => none
  else none

theorem mHeap_at {tM i : Nat} {o : AObj} (hi : i < 2 ^ HD) (h : (mHeap tM).at i = some o) : i = 7 ∧ o = mObj tM 8 := by
  unfold mHeap at h
  rw [AHeap.at_put _ _ _ _ (by decide) hi] at h
  split at h
  · rename_i e
    exact ⟨e.symm, (Option.some.inj h).symm⟩
  · cases h
theorem mHeap_self (tM : Nat) : (mHeap tM).at 7 = some (mObj tM 8) := by
  unfold mHeap
  rw [AHeap.at_put _ _ _ _ (by decide) (by decide), if_pos rfl]

section
variable {P : Program} {Post : Value → World → Prop} {w0 : World} {env : Env} {fC : FuncId}

theorem com_small (D : ComFacts P env fC) (ok : EnvOk P env) {σ : Sub} {F : Foot} {w : World} {c : Frame} {cs : List Frame} (hh : HR P env.G σ (mHeap D.tM) 9 F w)
    (hend : ∀ σ1 F1 w1, Reach σ (mHeap D.tM) 9 F w σ1 (mHeap D.tM) 10 F1 w1 → HR P env.G σ1 (mHeap D.tM) 10 F1 w1 → Wn P Post w0 F1 (G (c.finish (.pointer none)) cs) w1) :
    Wn P Post w0 F (G (Frame.enter P fC ([mArg].map (ren σ)).toArray .normal) (c :: cs)) w := by
  have C : Closed P true (Wn P Post w0) := wn_closed
  have snd := sound C ok (conOk_none (W := Wn P Post w0)) D.n
  obtain ⟨hl6, hl3, hl27, hl28⟩ := D.hlt
  have hle := D.hle
  obtain ⟨hf, _⟩ := ok.fn fC D.fn D.hfn
  obtain ⟨a0, ea, R0⟩ := enter_rel ok (args := [mArg]) D.hfn D.hB (by rw [D.hnt]; exact hle) (kind := .normal) (rc := .no) (csf := fun _ => c :: cs) (.inl rfl) hh (fun v hv => by
    have : v = mArg := by simpa using hv
    rw [this]; exact fun σ1 σ2 hs => by simp [mArg, renA, hs 7 (by omega)]) (fun fr hk => by simp [tryRecover, hk])
  rw [ea]
  rw [D.hnt] at R0
  let bf : Frame := baseK fC .normal
  have hnk : bf.kind ≠ .early := by simp [bf, baseK]
  refine C.quiet (fun w => stepG_seq) fun w1 r1 => ?_
  refine snd.code _ _ _ _ D.h0 bf a0 _ σ F w1 (fun _ => c :: cs) (R0.rely r1) fun σ1 a1 F1 w1' re1 R1 => ?_
  refine C.quiet (fun w => stepG_seq) fun w2 r2 => ?_
  refine C.quiet (fun w => stepG_region) fun w3 r3 => ?_
  have er : List.range D.o1.size = [0, 1] := by rw [D.ho1]; rfl
  rw [er]
  have R3 := (R1.rely r2).rely r3
  have re3 := (((Reach.rely (σ := σ) (H := mHeap D.tM) (nx := 9) r1).trans re1).trans (Reach.rely r2)).trans (Reach.rely r3)
  refine mk1_step C (o := D.p0) (by rw [D.ho1]; rfl) D.hp0.1 D.hp0.2.1 D.hA.1 D.hA.2.1 D.hA.2.2.2 D.hp0.2.2 hl6 (show 9 < 2 ^ HD by decide) R3 fun σ4 a4 F4 w4 re4 R4 hsz4 C4 => ?_
  have l256 : ∀ {t : Nat}, t < D.nt → t < 256 := fun h => Nat.lt_of_lt_of_le h hle
  refine one_step C ok (o := D.p1) (v := .chan (some 9)) (by rw [D.ho1]; rfl) D.hp1.1 (by rw [D.hp1.2.1]; rw [assign_eff hl6]; show Eff.val (tget (tput D.tm1 D.t6 (.chan (some 9))) D.t6) _ _ = _; rw [tget_tput (l256 hl6) (l256 hl6), if_pos rfl]) (fun t e => by rw [D.hp1.2.2] at e; cases e; exact hl3) R4 fun σ5 a5 F5 w5 re5 R5 => ?_
  rw [D.hp1.2.2] at R5
  refine C.quiet (fun w => stepG_region_end) fun w6 r6 => ?_
  refine C.quiet (fun w => stepG_seq) fun w7 r7 => ?_
  refine snd.code _ _ _ _ D.h2 bf a5 _ σ5 F5 w7 (fun _ => c :: cs) ((R5.rely r6).rely r7) fun σ8 a8 F8 w8 re8 R8 => ?_
  refine C.quiet (fun w => stepG_seq) fun w9 r9 => ?_
  refine snd.code _ _ _ _ D.h5 bf a8 _ σ8 F8 w9 (fun _ => c :: cs) (R8.rely r9) fun σ10 a10 F10 w10 re10 R10 => ?_
  refine C.quiet (fun w => stepG_seq) fun w11 r11 => ?_
  refine C.quiet (fun w => stepG_region) fun w12 r12 => ?_
  have R12 := (R10.rely r11).rely r12
  have re4' : Reach σ4 (mHeap D.tM) 10 F4 w4 σ10 (mHeap D.tM) 10 F10 w12 := (((((re5.trans (Reach.rely r6)).trans (Reach.rely r7)).trans re8).trans (Reach.rely r9)).trans re10).trans ((Reach.rely r11).trans (Reach.rely r12))
  have C12 := C4.reach re4'
  have hch : (σ10 9).blk = (σ4 9).blk := by rw [re4'.agree 9 (by omega)]
  rw [← hch] at C12
  have hrange : List.range D.o6.size = 0 :: List.range' 1 (D.o6.toList.drop 1).length := by
    have h1 : D.o6.size = (D.o6.toList.drop 1).length + 1 := by
      have := congrArg List.length D.ho6
      simp only [List.length_cons, Array.length_toList] at this
      exact this
    rw [h1, List.range_eq_range', List.range'_succ]
  rw [hrange]
  have hs0 : D.o6[0]? = some D.s0 := by
    have : D.o6.toList[0]? = some D.s0 := by rw [D.ho6]; rfl
    simpa using this
  have hev : a10.eval (.tmp D.t27) = .chan (some (σ10 9).blk) := by
    have h1 := (R12.tmp D.t27 hl27).1
    show a10.tmps.getD D.t27 undef = _
    rw [Array.getD_eq_getD_getElem?, h1]
    show ren σ10 (tget D.tm5 D.t27) = _
    rw [D.g27, ren_chan]
  obtain ⟨hrr, hree⟩ := select_run (P := P) (o := D.s0) D.hs0.2.1 D.hA.2.1 D.hA.2.2.1 hev
  refine wn_default (c := (σ10 9).blk) (z := D.z) rfl C12.heap (fun w _ => by
    rw [stepG_comm (main := true) hs0 (by unfold Region.wanted; rw [D.hs0.1]) hnk (hrr w)]
    unfold listed
    rw [hree w, seen_none]) fun w13 r13 => ?_
  have ecr : commResult #[rcase (σ10 9).blk D.z] .select (-1) undef false = noneSel D.z := by
    simp [commResult, rcase, noneSel, goInt]
  show Wn P Post w0 F10 (G ((bf.at a10 (.inRegion D.o6 (0 :: List.range' 1 (D.o6.toList.drop 1).length) :: _)).finish (commResult #[rcase (σ10 9).blk D.z] .select (-1) undef false)) (c :: cs)) w13
  rw [ecr, Frame.finish_at, hs0]
  have R13 := (R12.rely (atRel_rely r13 F10)).put (d := D.s0.dst) (v := noneSel D.z) (sc_tuple fun v hv => by
    have : v = .int .i64 (-1) ∨ v = .bool false ∨ v = D.z := by simpa using hv
    rcases this with rfl | rfl | rfl
    · exact fun σ1 σ2 _ => by simp
    · exact sc_bool _ _
    · exact D.hz.sc _) (fun t e => by rw [D.hs0.2.2] at e; cases e; exact hl28)
  have ez : ren σ10 (noneSel D.z) = noneSel D.z := by simp [noneSel, D.hz σ10]
  rw [ez, D.hs0.2.2] at R13
  show Wn P Post w0 F10 (G (bf.at (a10.put D.s0.dst (noneSel D.z)) _) (c :: cs)) w13
  rw [D.hs0.2.2]
  refine snd.ops _ _ _ _ _ _ D.h6 rfl bf _ _ σ10 F10 w13 (fun _ => c :: cs) R13 fun σ14 a14 F14 w14 re14 R14 => ?_
  refine snd.code _ _ _ _ D.h7 bf a14 [] σ14 F14 w14 (fun _ => c :: cs) R14 fun σ15 a15 F15 w15 re15 R15 todo => ?_
  refine snd.unwind D.fn none _ _ D.h8 bf a15 todo σ15 F15 w15 (fun _ => c :: cs) R15.toPRel (.inr R15.tmp) hf (.inl rfl) trivial ?_
  intro σ16 F16 w16 re16 hh16 _
  show Wn P Post w0 F16 (G (c.finish (ren σ16 (.pointer none))) cs) w16
  rw [ren_pointer_none]
  refine hend σ16 F16 w16 ?_ hh16
  exact ((re3.trans re4).trans re4').trans ((((Reach.rely (atRel_rely r13 F10)).trans re14).trans re15).trans re16)
end
end Go.Proofs.Evz

/-
  ENGINE 42. .. as a contract over every heap.
-/
namespace Go.Proofs.Evz
open Go Go.Conc

theorem ObjR.worldEq {P : Program} {σ : Sub} {nx id : Nat} {F F' : Foot} {w w' : World} {o : AObj} (h : ObjR P σ nx F w id o) (hb : w'.heap[(σ id).blk]? = w.heap[(σ id).blk]?) (hm : F.mine (σ id).blk → F'.mine (σ id).blk) (hr : F'.ro = F.ro) : ObjR P σ nx F' w' id o := by
  cases o with
  | cells t cs g ro =>
    obtain ⟨c, fr, g1, g2, g3, g4, g5, g6, g7⟩ := h
    refine ⟨c, fr, by rw [hb]; exact g1, g2, g3, g4, g5, g6, ?_⟩
    cases ro
    · exact hm g7
    · simp only [if_true] at g7 ⊢; rw [hr]; exact g7
  | map es ck =>
    obtain ⟨g1, g2, g3⟩ := h
    exact ⟨by rw [hb]; exact g1, g2, hm g3⟩

section
variable {P : Program} {Post : Value → World → Prop} {w0 : World} {env : Env} {fC : FuncId}

theorem conOk_com (D : ComFacts P env fC) (ok : EnvOk P env) : ConOk P env (Wn P Post w0) (comK fC D.tM) := by
  intro f vs H nx v H' nx' h σ F w hh hs
  unfold comK at h
  cases hb' : Nat.beq f fC with
  | false => rw [hb'] at h; cases h
  | true =>
    rw [hb'] at h
    simp only [cond_true] at h
    split at h
    · rename_i b
      split at h
      · rename_i t b0 ho
        cases hc : (Nat.beq t D.tM && Nat.blt b nx) with
        | false => rw [hc] at h; cases h
        | true =>
          rw [hc] at h
          simp only [cond_true, Option.some.injEq, Prod.mk.injEq] at h
          obtain ⟨rfl, rfl, rfl⟩ := h
          simp only [Bool.and_eq_true] at hc
          have e1 := Nat.eq_of_beq_eq_true hb'
          have e2 := Nat.eq_of_beq_eq_true hc.1
          have hbn := blt_lt hc.2
          subst e1; subst e2
          obtain ⟨q1, q2⟩ := ok.fn f D.fn D.hfn
          refine .inr ⟨⟨D.fn, q1, q2, by rw [D.hB]; rfl⟩, fun fr cs hend hro => ?_⟩
          have hbd : b < 2 ^ HD := Nat.lt_of_lt_of_le hbn hh.top
          have hO := (hh.live b _ hbd ho).2
          let σs : Sub := fun i => if i = 7 then σ b else if i = 8 then σ b0 else σ i
          have s7 : σs 7 = σ b := by simp [σs]
          have s8 : σs 8 = σ b0 := by simp [σs]
          have hsm : HR P env.G σs (mHeap D.tM) 9 F w := by
            refine ⟨fun id o hid hio => ?_, fun id id' o o' hid hid' hio hio' _ => ?_, by decide, ⟨Nat.le_trans D.hG (by decide), fun g hg => ?_⟩, hh.mine, hh.ro⟩
            · obtain ⟨rfl, rfl⟩ := mHeap_at hid hio
              refine ⟨by decide, ?_⟩
              obtain ⟨c, fr', g1, g2, g3, g4, g5, g6, g7⟩ := hO
              refine ⟨c, fr', by rw [s7]; exact g1, by rw [s7]; exact g2, fun i hi => ?_, g4, fun hg => by rw [s7]; exact g5 hg, fun v hv => ?_, by rw [s7]; exact g7⟩
              · rw [s7, g3 i hi]
                have e : ([Value.pointer (some ⟨b0, 0, none⟩), .slice none 0 0, .slice none 0 0] : List Value).map (ren σ) = ([Value.pointer (some ⟨8, 0, none⟩), .slice none 0 0, .slice none 0 0] : List Value).map (ren σs) := by
                  simp [renA, s8]
                have := congrArg (fun l => l[i]?) e
                simp only [List.getElem?_map] at this
                exact this
              · have : v = .pointer (some ⟨8, 0, none⟩) ∨ v = .slice none 0 0 := by simpa [mObj] using hv
                rcases this with rfl | rfl
                · exact fun σ1 σ2 hs => by simp [renA, hs 8 (by omega)]
                · exact fun σ1 σ2 hs => by simp
            · obtain ⟨rfl, _⟩ := mHeap_at hid hio
              obtain ⟨rfl, _⟩ := mHeap_at hid' hio'
              rfl
            · have : σs g = σ g := by
                have := D.hG
                show (if g = 7 then _ else if g = 8 then _ else σ g) = _
                rw [if_neg (by omega), if_neg (by omega)]
              rw [this]; exact hh.glob.2 g hg
          have earg : ([mArg].map (ren σs)).toArray = ([Value.pointer (some ⟨b, 0, none⟩)].map (ren σ)).toArray := by simp [mArg, renA, s7]
          rw [← earg]
          refine com_small D ok hsm (fun σ1 F1 w1 re hh1 hfix => ?_) hro
          have hrokeep : ∀ b, F.ro b → w1.heap[b]? = w.heap[b]? := fun b hb => by
            rw [(hfix.ro b (by rw [re.keeps.ro]; exact hb)).2.2, (hro.ro b hb).2.2]
          have e7 : σ1 7 = σ b := by rw [← re.agree 7 (by omega)]; exact s7
          have himg : ∀ x, Img σs (mHeap D.tM) x → x = (σ b).blk := by
            rintro x ⟨id, o, hid, hio, rfl⟩
            obtain ⟨rfl, _⟩ := mHeap_at hid hio
            rw [s7]
          have hkeep : ∀ x, F.mine x → x ≠ (σ b).blk → w1.heap[x]? = w.heap[x]? := fun x hx hne => (re.keeps.kept x hx fun hi => hne (himg x hi)).2
          have hH : HR P env.G σ H nx F1 w1 := by
            refine ⟨fun id o hid hio => ?_, hh.inj, hh.top, hh.glob, hh1.mine, hh1.ro⟩
            obtain ⟨l1, l2⟩ := hh.live id o hid hio
            refine ⟨l1, ?_⟩
            by_cases hid2 : id = b
            · subst hid2
              rw [ho] at hio
              cases hio
              obtain ⟨_, c, fr', g1, g2, g3, g4, g5, g6, g7⟩ := hh1.live 7 _ (by decide) (mHeap_self D.tM)
              obtain ⟨c', fr'', k1, k2, k3, k4, k5, k6, k7⟩ := l2
              rw [e7] at g1 g2 g3 g7
              refine ⟨c, fr', g1, g2, fun i hi => ?_, g4, k5, k6, g7⟩
              rw [g3 i hi]
              have s81 : σ1 8 = σ b0 := by rw [← re.agree 8 (by omega)]; exact s8
              have e : ([Value.pointer (some ⟨8, 0, none⟩), .slice none 0 0, .slice none 0 0] : List Value).map (ren σ1) = ([Value.pointer (some ⟨b0, 0, none⟩), .slice none 0 0, .slice none 0 0] : List Value).map (ren σ) := by
                simp [renA, s81]
              have := congrArg (fun l => l[i]?) e
              simp only [List.getElem?_map] at this
              exact this
            · have hne : (σ id).blk ≠ (σ b).blk := fun e => hid2 (hh.inj id b _ _ hid hbd hio ho e)
              exact l2.worldEq (l2.mineRo.elim (fun hm => hkeep _ hm hne) fun hm => hrokeep _ hm) (re.keeps.mine _) re.keeps.ro
          have hre : Reach σ H nx F w σ H nx F1 w1 := by
            refine ⟨Agree.refl _ _, Nat.le_refl _, ⟨re.keeps.size, re.keeps.mine, re.keeps.ro, fun x hx hi => ⟨hi, ?_⟩⟩⟩
            exact hkeep x hx fun e => hi ⟨b, _, hbd, ho, e.symm⟩
          have := hend σ F1 w1 hre hH (fun σ1 σ2 _ => by simp) hfix
          rw [ren_pointer_none] at this
          exact this
      · cases h
    · cases h
end
end Go.Proofs.Evz

/-
  ENGINE 43. The orders of a region of four; access to operations' parts.
-/
namespace Go.Proofs.Evz
open Go Go.Conc

theorem go_next {md : Region.Mode} {ops : Array Oper} {fuel t : Nat} {listed : Array Bool} {acc rs : List Nat} (h : Region.ready md ops listed = rs) :
    Region.linearise.go md ops (fuel + 1) t listed acc = match rs[t % rs.length]? with
      | some i => Region.linearise.go md ops fuel (t / rs.length) (listed.setIfInBounds i true) (i :: acc)
      | none => acc.reverse := by subst h; rfl

theorem orders4 {o1 : Array Oper} (hs : o1.size = 4) (h0 : Region.ready .any o1 #[false, false, false, false] = [0, 1]) (h1 : Region.ready .any o1 #[true, false, false, false] = [1, 2]) (h2 : Region.ready .any o1 #[false, true, false, false] = [0])
    (h3 : Region.ready .any o1 #[true, true, false, false] = [2]) (h4 : Region.ready .any o1 #[true, false, true, false] = [1]) (h5 : Region.ready .any o1 #[true, true, true, false] = [3]) (t : Nat) :
    Region.schedule true o1 t = [0, 1, 2, 3] ∨ Region.schedule true o1 t = [1, 0, 2, 3] ∨ Region.schedule true o1 t = [0, 2, 1, 3] := by
  have e : Region.schedule true o1 t = Region.linearise.go .any o1 4 t #[false, false, false, false] [] := by
    show Region.linearise.go .any o1 o1.size t (Array.replicate o1.size false) [] = _
    rw [hs]; rfl
  rw [e, go_next h0]
  have fin : ∀ u acc, Region.linearise.go .any o1 1 u #[true, true, true, false] acc = acc.reverse ++ [3] := fun u acc => by
    rw [go_next h5]
    have : u % [3].length = 0 := Nat.mod_one u
    rw [this]
    simp [Region.linearise.go]
  have l2 : ∀ u : Nat, u % ([0, 1] : List Nat).length = 0 ∨ u % ([0, 1] : List Nat).length = 1 := fun u => Nat.mod_two_eq_zero_or_one u
  have l2' : ∀ u : Nat, u % ([1, 2] : List Nat).length = 0 ∨ u % ([1, 2] : List Nat).length = 1 := fun u => Nat.mod_two_eq_zero_or_one u
  rcases l2 t with ht | ht
  · rw [ht]
    show (Region.linearise.go .any o1 3 _ #[true, false, false, false] [0] = _) ∨ (Region.linearise.go .any o1 3 _ #[true, false, false, false] [0] = _) ∨ (Region.linearise.go .any o1 3 _ #[true, false, false, false] [0] = _)
    rw [go_next h1]
    rcases l2' (t / ([0, 1] : List Nat).length) with hu | hu
    · rw [hu]
      refine .inl ?_
      show Region.linearise.go .any o1 2 _ #[true, true, false, false] [1, 0] = _
      rw [go_next h3]
      rw [show ∀ u : Nat, u % ([2] : List Nat).length = 0 from fun u => Nat.mod_one u]
      show Region.linearise.go .any o1 1 _ #[true, true, true, false] [2, 1, 0] = _
      rw [fin]; rfl
    · rw [hu]
      refine .inr (.inr ?_)
      show Region.linearise.go .any o1 2 _ #[true, false, true, false] [2, 0] = _
      rw [go_next h4]
      rw [show ∀ u : Nat, u % ([1] : List Nat).length = 0 from fun u => Nat.mod_one u]
      show Region.linearise.go .any o1 1 _ #[true, true, true, false] [1, 2, 0] = _
      rw [fin]; rfl
  · rw [ht]
    refine .inr (.inl ?_)
    show Region.linearise.go .any o1 3 _ #[false, true, false, false] [1] = _
    rw [go_next h2]
    rw [show ∀ u : Nat, u % ([0] : List Nat).length = 0 from fun u => Nat.mod_one u]
    show Region.linearise.go .any o1 2 _ #[true, true, false, false] [0, 1] = _
    rw [go_next h3]
    rw [show ∀ u : Nat, u % ([2] : List Nat).length = 0 from fun u => Nat.mod_one u]
    show Region.linearise.go .any o1 1 _ #[true, true, true, false] [2, 0, 1] = _
    rw [fin]; rfl

def opAt (o : Array Oper) (i : Nat) : Oper := o.toList.getD i default
def closeAts : List Deferred → Array TypeId
  | [{ target := .builtin _ ats _ _, args := _ }] => ats
  | _ => #[]
def closeTy : List Deferred → TypeId
  | [{ target := .builtin _ _ ty _, args := _ }] => ty
  | _ => 0
def closeKs : List Deferred → Array Bool
  | [{ target := .builtin _ _ _ ks, args := _ }] => ks
  | _ => #[]
def goTys : Op → Array TypeId
  | .go c => c.argTypes
  | _ => #[]
end Go.Proofs.Evz

/-
  ENGINE 44. Pieces of code one behind the other; the first frame's return.
-/
namespace Go.Proofs.Evz
open Go Go.Conc

noncomputable def evC (env : Env) (K : Con) (n : Nat) : List Code → St → Option St
  | [], S => some S
  | c :: cs, S => match ev env K n (.code c) S with
    | some (.out .normal S') => evC env K n cs S'
    | _ => none
def seqL : List Code → Code → Code
  | [], c => c
  | p :: ps, c => .seq p (seqL ps c)

section
variable {P : Program} {env : Env} {main : Bool} {W : Foot → Goroutine → World → Prop} {K : Con} {n : Nat}

theorem codes_run (C : Closed P main W) (ok : EnvOk P env) (hK : ConOk P env W K) : ∀ (ps : List Code) (S S' : St), evC env K n ps S = some S' → ∀ (rest : Code) (b : Frame) (a : Act) (k : List Item) (σ : Sub) (F : Foot) (w : World) (csf : RC → List Frame), Rel P env b σ S a F w csf →
    (∀ σ' a' F' w', Reach σ S.H S.nx F w σ' S'.H S'.nx F' w' → Rel P env b σ' S' a' F' w' csf → W F' (G (b.at a' (.code rest :: k)) (csf S'.rc)) w') → W F (G (b.at a (.code (seqL ps rest) :: k)) (csf S.rc)) w
  | [], S, S', h, rest, b, a, k, σ, F, w, csf, hR, hk => by
    simp only [evC, Option.some.injEq] at h
    subst h
    exact hk σ a F w Reach.refl hR
  | c :: cs, S, S', h, rest, b, a, k, σ, F, w, csf, hR, hk => by
    simp only [evC] at h
    split at h
    · rename_i S1 h1
      refine C.quiet (fun w => stepG_seq) fun w1 r1 => ?_
      refine (sound C ok hK n).code _ _ _ _ h1 b a _ σ F w1 csf (hR.rely r1) fun σ2 a2 F2 w2 r2 R2 => ?_
      exact codes_run C ok hK cs S1 S' h rest b a2 k σ2 F2 w2 csf R2 fun σ3 a3 F3 w3 r3 R3 => hk σ3 a3 F3 w3 (((Reach.rely r1).trans r2).trans r3) R3
    · cases h
end

section
variable {P : Program} {Post : Value → World → Prop} {env : Env}

theorem wn_end {w0 : World} {b : Frame} {a : Act} {todo : List Item} {σ : Sub} {S : St} {F : Foot} {w : World} {csf : RC → List Frame} {fn : Func} {t : Tmp} {v : Value} (hR : Rel P env b σ S a F w csf) (hk : b.kind = .normal) (hf : P.funcs[b.fn]? = some fn) (hi : P.inits.idxOf? b.fn = none) (hr : fn.results = #[.tmp t]) (ht : t < S.nt) (hd : S.df = []) (hv : tget S.tm t = v) (hcl : Closedv v)
    (hp : ∀ w₁, Rely F w w₁ → RoFix w0 F w₁ → Post v w₁) : Wn P Post w0 F (G { b.at a todo with mode := .returning } []) w := fun hfix =>
  w1_end rfl fun w₁ r => by
    have r' := atRel_rely r F
    refine ⟨v, #[], ?_, by simp, hp w₁ r' (hfix.rely (fun _ h => h) rfl r')⟩
    have h1 := (hR.tmp t ht).1
    rw [hv, hcl σ] at h1
    have hd' : a.defers = [] := by rw [hR.df, hd]; rfl
    simp [G, stepG, unwind, doReturn, results, Frame.at, hk, hf, hi, hr, hd', h1, seen_none, GStep.after]
end
end Go.Proofs.Evz
