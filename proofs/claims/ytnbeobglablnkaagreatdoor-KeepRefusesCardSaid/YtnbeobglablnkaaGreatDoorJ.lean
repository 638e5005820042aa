/-
  The given row of KeepRefuses, and its tied card.
-/
import Derived.Test.YtnbeobglablnkaaGreatDoorH
import Derived.Test.YtnbeobglablnkaaGreatDoorRows
import Derived.Test.YtnbeobglablnkaaGreatDoorTie
import Derived.Test.YtnbeobglablnkaaGreatDoorCards
import Derived.Conc.HoldsTime
import Derived.LaidMore
import Derived.Lay
import Derived.Lib.LaidTab
import Derived.OpenShut
import Derived.JoinedCond
import Derived.MakeChecks
import Derived.SevenTiedAt
import Derived.Stop.LaidErr
namespace Go.Proofs.YtnbeobglablnkaaGreatDoor
open Go.Conc Go.RowKit Go.ChangeShapes Go.WideShapes Go.ChangeAt Go.Proofs.Evz
set_option maxRecDepth 100000

section
variable {H : Type} {enc : TypeId × Value → H}
theorem leaving_of_change {a : Assume} {C : Checked} {os : Os} {f : FuncId} {fn : Func} {s : ChangeSpec} {F : Stop.Interp} {conds : List PathCond} {apart fresh handsOn : Bool} {X : World → Prop}
    (hX : ∀ (w w' : World), w.heap = w'.heap → X w → X w') (own : ownKnob C.prog.godebug = none) (started : os.Started) (hfn : C.prog.funcs[f]? = some fn)
    (witness : ∃ (w : World) (tape : Tape) (i : Input), w.os = os ∧ (w.forCall tape i).Shaped C.prog ∧ i.vars = [] ∧ Input.okWide C.prog (w.forCall tape i) .any w.heap.size f i ∧
      ((s.pre enc C.prog fn conds apart (w.forCall tape i).memory i.args ∧ X (w.forCall tape i).memory) ∧ sizedMet enc C.prog fn (OpenSpec.ofChange s) apart (w.forCall tape i).memory i.args) ∧ a.holds C.prog (lone (Frame.enter C.prog f i.args .normal) [] (w.forCall tape i)))
    (runs : ∀ (W : World) (base : Nat) (args : Array Value) (ds gs : List (DataW H)) (before : List MemPlace),
      (∀ (j : Nat) t v, fn.params[j]? = some t → args[j]? = some v → Value.okWide C.prog W .any base t v) →
      DataW.Whole enc C.prog fn.params.toList s.vars apart W args.toList ds gs before → X W → W.ShapedOpen C.prog →
      ∃ M last o w' t', runNT C.prog (M + 1) (solo (G (Frame.enter C.prog f args .normal) []) W) #[] = (.ended o w', t') ∧ runN C.prog M (solo (G (Frame.enter C.prog f args .normal) []) W) = .next last ∧
        step C.prog last = .ended o w' ∧ Conc.Good C.prog (fun v W' => s.post enc C.prog fn apart fresh handsOn false W args v { W' with os := W.os } ∧ Go.ConcM.OsLater W.os W'.os) last o w' t') :
    ReturnsInLeavingWide a C os f .any (fun w args => (s.pre enc C.prog fn conds apart w args ∧ X w) ∧ sizedMet enc C.prog fn (OpenSpec.ofChange s) apart w args) ((OpenSpec.ofChange s).postWith enc C.prog fn F (outsideKept [.timePasses]) apart fresh handsOn) := by
  refine returnsInLeavingWide_of_good own started witness ?_
  intro w tape i _ hsh _ hok hpre _
  obtain ⟨_, _, _, fn', hfn', _, _, _, _, hval⟩ := hok
  have e : fn' = fn := Option.some.inj (hfn'.symm.trans hfn)
  subst e
  obtain ⟨⟨⟨ds, gs, before, hw, _⟩, hx⟩, _⟩ := hpre
  have hw' := DataW.Whole.of_heap (w' := w.forCall tape i) (by rfl) hw
  obtain ⟨M, last, o, w', t', h1, h2, h3, h4⟩ := runs (w.forCall tape i) w.heap.size i.args ds gs before hval hw' (hX _ _ (by rfl) hx) hsh
  obtain ⟨v, e, hp, r1, r2, r3, r4⟩ := h4
  exact ⟨M, last, o, w', t', h1, h2, h3, v, e, postWith_blind (postWith_of_post hp.1 hp.2), r1, r2, r3, r4⟩
end

theorem witness_calm {H : Type} {enc : TypeId × Value → H} {C : Checked} {os : Os} {f : FuncId} {fn : Func} {s : ChangeSpec} {conds : List PathCond} {apart : Bool} {X : World → Prop} (w0 : World) (args : Array Value) (fuel : Nat) (hos : w0.os = os)
    (hsh : (w0.forCall (fun _ _ => 0) ⟨#[], args, []⟩).Shaped C.prog) (hok : Input.okWideB C.prog (w0.forCall (fun _ _ => 0) ⟨#[], args, []⟩) f ⟨#[], args, []⟩ = true)
    (hpre : s.preB enc C.prog fn conds apart (w0.forCall (fun _ _ => 0) ⟨#[], args, []⟩).memory args fuel = true) (hsz : s.sizedB enc C.prog fn apart (w0.forCall (fun _ _ => 0) ⟨#[], args, []⟩).memory args fuel = true)
    (hx : X (w0.forCall (fun _ _ => 0) ⟨#[], args, []⟩).memory) :
    ∃ (w : World) (tape : Tape) (i : Input), w.os = os ∧ (w.forCall tape i).Shaped C.prog ∧ i.vars = [] ∧ Input.okWide C.prog (w.forCall tape i) .any w.heap.size f i ∧
      ((s.pre enc C.prog fn conds apart (w.forCall tape i).memory i.args ∧ X (w.forCall tape i).memory) ∧ sizedMet enc C.prog fn (OpenSpec.ofChange s) apart (w.forCall tape i).memory i.args) ∧ ({ calm := true } : Assume).holds C.prog (lone (Frame.enter C.prog f i.args .normal) [] (w.forCall tape i)) :=
  ⟨w0, fun _ _ => 0, ⟨#[], args, []⟩, hos, hsh, (Input.okWide_of_okWideB (base := 0) hok).1, (Input.okWide_of_okWideB hok).2, ⟨⟨ChangeSpec.pre_of_preB hpre, hx⟩, sizedMet_of_sizedB hsz⟩, by
    simp only [Assume.holds]
    exact ⟨by simp, fun _ _ _ _ => rfl, by simp, by simp, by simp⟩⟩

theorem own : ownKnob Tryz.prog.godebug = none := by kernel_rfl

noncomputable def zsA : List Int := (List.range 256).map fun i => if (9 ≤ i ∧ i ≤ 13) ∨ i = 32 then 1 else 0
theorem zsA_ascii : asciiL = zsA.map (fun z => Value.int .u8 z) := by kernel_rfl
theorem zsA_laid : (Rows.laid_strings_asciiSpace : DataW Unit) = Lib.tabData .u8 zsA := by kernel_rfl

/-- What the row's condition says of the table of spaces. -/
theorem ascii_of {W : World} (h : laidMetH Tryz.prog Rows.keepRefusesRow.laid W) : Lib.TabIs Tryz.prog W "strings.asciiSpace" .u8 zsA := by
  rw [MakeChecks.laidMetH_plain _ _ _ (by kernel_rfl)] at h
  have h4 : laidMet Tryz.prog [("strings.asciiSpace", Rows.laid_strings_asciiSpace)] W := laidMet.tail (laidMet.tail (laidMet.tail (laidMet.tail h)))
  rw [zsA_laid] at h4
  exact Lib.tabIs_of_head (g := 0) (t := 346) (e := 5) (n := 256) (by kernel_rfl) (by kernel_rfl) Tryz.underlying346 Tryz.underlying5 (by kernel_rfl) (by kernel_rfl) h4

/-- The two tables, in a world that the row lets in. -/
theorem tables {W : World} (hL : laidMetH Tryz.prog Rows.keepRefusesRow.laid W) (hs : W.ShapedOpen Tryz.prog) :
    (∃ c0, W.heap[0]? = some (.cells c0 346) ∧ c0.toList = asciiL) ∧ ∃ ml, W.heap[2]? = some (.cells #[.int .i64 ml] 3) := by
  constructor
  · have h := ascii_of hL
    unfold Lib.TabIs World.var? at h
    rw [show Tryz.prog.globalNamed "strings.asciiSpace" = some 0 by kernel_rfl] at h
    have hz : ((begin Tryz.prog (fun _ _ => 0) default).world.heap[0]?).bind Obj.row? = some ((Array.replicate 256 (.int .u8 0)), 346) := by kernel_rfl
    obtain ⟨cs, hh, _, _⟩ := hs.1 0 _ 346 (by decide +kernel) hz
    refine ⟨cs, hh, ?_⟩
    simp only [Option.bind_some, hh, Option.some.injEq] at h
    rw [h, zsA_ascii]
  · have hz : ((begin Tryz.prog (fun _ _ => 0) default).world.heap[2]?).bind Obj.row? = some (#[.int .i64 0], 3) := by kernel_rfl
    obtain ⟨cs, hh, hsz, hr⟩ := hs.1 2 _ 3 (by decide +kernel) hz
    obtain ⟨ts, hts, _, hall⟩ := hr (by kernel_rfl)
    rw [show Tryz.prog.cellTypes Tryz.prog.depth 3 = some [3] by kernel_rfl] at hts
    cases hts
    have hsz' : cs.size = 1 := hsz
    have h1 : 0 < cs.size := by omega
    obtain ⟨u, hu, hok⟩ := hall 0 cs[0] (by simp [h1])
    have : u = 3 := by simpa using hu.symm
    subst this
    unfold Cell.ok at hok
    rw [Tryz.underlying3] at hok
    cases hv : cs[0] <;> rw [hv] at hok <;> simp at hok
    rename_i k ml
    refine ⟨ml, ?_⟩
    rw [hh]
    have : cs = #[.int .i64 ml] := by
      apply Array.ext
      · simp [hsz']
      · intro i hi _
        have : i = 0 := by omega
        subst this
        rw [hv, hok.1]; rfl
    rw [this]

theorem runs (H : Type) (enc : TypeId × Value → H) (W : World) (base : Nat) (args : Array Value) (ds gs : List (DataW H)) (before : List MemPlace)
    (hval0 : ∀ (j : Nat) t v, Tryz.f3.params[j]? = some t → args[j]? = some v → Value.okWide Tryz.prog W .any base t v)
    (hW : DataW.Whole enc Tryz.prog Tryz.f3.params.toList Rows.keepRefusesSpec.vars false W args.toList ds gs before) (hL : laidMetH Tryz.prog Rows.keepRefusesRow.laid W) (hs : W.ShapedOpen Tryz.prog) :
    ∃ M last o w' t', runNT Tryz.prog (M + 1) (solo (G (Frame.enter Tryz.prog 3 args .normal) []) W) #[] = (.ended o w', t') ∧ runN Tryz.prog M (solo (G (Frame.enter Tryz.prog 3 args .normal) []) W) = .next last ∧
      step Tryz.prog last = .ended o w' ∧ Conc.Good Tryz.prog (fun v W' => Rows.keepRefusesSpec.post enc Tryz.prog Tryz.f3 false true false false W args v { W' with os := W.os } ∧ Go.ConcM.OsLater W.os W'.os) last o w' t' := by
  have hval : ∀ (j : Nat) t v, Tryz.f3.params[j]? = some t → args[j]? = some v → Value.okWide Tryz.prog W .any base t v := hval0
  have hW' := hW
  obtain ⟨p, q, hA0, hV, rfl, _, _⟩ := hW
  have hA : DataW.TrodAll enc Tryz.prog W 0 (fun _ => true) true Tryz.f3.params.toList args.toList ds p := hA0
  rw [Tryz.params3] at hA hval
  obtain ⟨v0, v1, v2, d0, d1, d2, p0, p1, p2, rfl, rfl, rfl, h0, h1, h2⟩ := trodAll_three hA
  obtain ⟨rfl, rfl⟩ := trodVars_none hV
  obtain ⟨c, rfl, rfl, rfl, wc⟩ := open_int Tryz.underlying3 (hval 0 3 v0 rfl rfl) h0
  obtain ⟨m, rfl, rfl, rfl, wm⟩ := open_int Tryz.underlying3 (hval 1 3 v1 rfl rfl) h1
  obtain ⟨n, rfl, rfl, rfl, wn⟩ := open_int Tryz.underlying5 (hval 2 5 v2 rfl rfl) h2
  clear hA0 hval0
  have hn : 0 ≤ n ∧ n ≤ 255 := by simpa [Lit.wf, IntKind.min, IntKind.max, IntKind.signed, IntKind.bits] using wn
  obtain ⟨k, rfl⟩ := Int.eq_ofNat_of_zero_le hn.1
  have hk : k < 256 := by have := hn.2; omega
  obtain ⟨⟨c0, t0, t1⟩, ml, t2⟩ := tables hL hs
  obtain ⟨M, last, o, w', t', r1, r2, r3, r4⟩ := the_run W (c := c) (m := m) hk t0 t1 t2
  obtain ⟨v, e1, ⟨rfl, hos, hout, htape, hsz, hblk⟩, hrest⟩ := r4
  have hb : Below W.heap.size W { w' with os := W.os } := ⟨rfl, htape, hout, hsz, hblk⟩
  refine ⟨M, last, o, w', t', r1, r2, r3, .bool true, e1, ⟨?_, ?_⟩, hrest⟩
  · exact ⟨_, _, _, [], _, [], hW', trodAll_mk1 (shut_bool Tryz.underlying4 true), trodAll_mk3 (shut_int Tryz.underlying3 wc) (shut_int Tryz.underlying3 wm) (shut_int Tryz.underlying5 wn), rfl, hb.frame _, fun h => by cases h⟩
  · rw [hos]; exact Go.ConcM.OsLater.refl _

theorem lifted (os : Os) (started : os.Started) (H : Type) (enc : TypeId × Value → H) (F : Stop.Interp) :
    ReturnsInLeavingWide { calm := true } Tryz.checked os 3 .any (fun w args => (Rows.keepRefusesSpec.pre enc Tryz.prog Tryz.f3 [] false w args ∧ laidMetH Tryz.prog Rows.keepRefusesRow.laid w) ∧ sizedMet enc Tryz.prog Tryz.f3 (OpenSpec.ofChange Rows.keepRefusesSpec) false w args)
      ((OpenSpec.ofChange Rows.keepRefusesSpec).postWith enc Tryz.prog Tryz.f3 F (outsideKept [.timePasses]) false true false) := by
  refine leaving_of_change (C := Tryz.checked) (X := fun w => laidMetH Tryz.prog Rows.keepRefusesRow.laid w) (fun _ _ hh h => h.of_heap hh) own started Tryz.func3 ?_ (fun W base args ds gs before hval hW hL hs => runs H enc W base args ds gs before hval hW hL hs)
  exact witness_calm (enc := enc) (C := Tryz.checked) (X := fun w => laidMetH Tryz.prog Rows.keepRefusesRow.laid w) (World.laidAll Tryz.prog os Rows.keepRefusesRow.laid) #[.int .i64 0, .int .i64 0, .int .u8 0] 8 (World.laidAll_os _ _ _) (World.shaped_of_ZipB (by kernel_rfl) (by kernel_rfl)) (by kernel_rfl) (by kernel_rfl) (by kernel_rfl)
    (by rw [MakeChecks.laidMetH_plain _ _ _ (by kernel_rfl)]; exact laidMet_laidAll _ (by kernel_rfl) (by kernel_rfl))

end Go.Proofs.YtnbeobglablnkaaGreatDoor
