/-
  ENGINE: from the run to the machine: goroutine 0's walk through the statement's function.
-/
import Derived.Test.YtnbeobglablnkaaGreatDoorGb
namespace Go.Proofs.Evz
open Go Go.Conc Go.Proofs
set_option maxRecDepth 100000
theorem body3 : Tryz.f3.body = some (seqL ps3 (.seq (.region (rId (cL (r3 15))) o16 false) rest3)) := by kernel_rfl
theorem run3_parts (c m ml : Int) (n : Nat) : ∃ S1 S2 S4, evC env K5 3000 ps3 (S3 c m ml n) = some S1 ∧ ev env K5 3000 (.ops o16 4 (o16.toList.drop 4)) (hand16 n S1) = some (.out .normal S2) ∧ ev env K5 3000 (.code rest3) S2 = some (.out .ret S4) ∧
    tget S1.tm 2 = .int .u8 (.ofNat n) ∧ S1.nt = 147 ∧ tget S4.tm 6 = .bool true ∧ S4.df = [] ∧ S4.nt = 147 := by
  have h := run3_ok c m ml n
  have ht := tm2_ok c m ml n
  unfold run3 at h
  cases h1 : evC env K5 3000 ps3 (S3 c m ml n) with
  | none => rw [h1] at h; cases h
  | some S1 =>
    rw [h1] at h ht
    simp only [Option.map_some, Option.some.injEq, Prod.mk.injEq] at ht
    simp only at h
    cases h2 : ev env K5 3000 (.ops o16 4 (o16.toList.drop 4)) (hand16 n S1) with
    | none => rw [h2] at h; cases h
    | some r2 =>
      rw [h2] at h
      rcases r2 with ⟨_ | _ | _ | _, S2⟩ | _ | _ <;> try (cases h; done)
      simp only at h
      cases h3 : ev env K5 3000 (.code rest3) S2 with
      | none => rw [h3] at h; cases h
      | some r3 =>
        rw [h3] at h
        rcases r3 with ⟨_ | _ | _ | _, S4⟩ | _ | _ <;> try (cases h; done)
        simp only [okB] at h
        refine ⟨S1, S2, S4, rfl, h2, h3, ht.1, ht.2, ?_⟩
        split at h
        · rename_i e1 e2
          exact ⟨e1, e2, Nat.eq_of_beq_eq_true h⟩
        · cases h

theorem o16_facts : (opAt o16 0).op = .move (.tmp 11) ∧ (opAt o16 1).op = .move (.tmp 2) ∧ (opAt o16 2).op = .convert 5 3 (.tmp 102) ∧ (opAt o16 3).op = .binOp .add 3 (.const (.int .i64 4)) (.tmp 103) 3 ∧
    (opAt o16 0).dst = some 101 ∧ (opAt o16 1).dst = some 102 ∧ (opAt o16 2).dst = some 103 ∧ (opAt o16 3).dst = some 104 ∧
    (opAt o16 0).guard = none ∧ (opAt o16 1).guard = none ∧ (opAt o16 2).guard = none ∧ (opAt o16 3).guard = none ∧ o16[0]? = some (opAt o16 0) ∧ o16[1]? = some (opAt o16 1) ∧ o16[2]? = some (opAt o16 2) ∧ o16[3]? = some (opAt o16 3) ∧
    List.range o16.size = 0 :: 1 :: 2 :: 3 :: List.range' 4 (o16.toList.drop 4).length :=
  ⟨by kernel_rfl, by kernel_rfl, by kernel_rfl, by kernel_rfl, by kernel_rfl, by kernel_rfl, by kernel_rfl, by kernel_rfl, by kernel_rfl, by kernel_rfl, by kernel_rfl, by kernel_rfl, by kernel_rfl, by kernel_rfl, by kernel_rfl, by kernel_rfl, by kernel_rfl⟩

theorem eff_conv {tm : ATmp} {H : AHeap} {nx n : Nat} (hn : n < 256) (ht : tget tm 102 = .int .u8 (.ofNat n)) : opF (.convert 5 3 (.tmp 102)) env (fun x => opv x env tm 147) H nx = .val (.int .i64 (.ofNat n)) H nx := by
  show Eff.ofA (aConv env 5 3 (tget tm 102) H nx) = _
  rw [ht]
  show Eff.val (.int .i64 (IntKind.wrap .i64 (.ofNat n))) H nx = _
  rw [wrap_lim .i64 n (Nat.lt_trans hn (by decide))]
theorem eff_add {tm : ATmp} {H : AHeap} {nx n : Nat} (hn : n < 256) (ht : tget tm 103 = .int .i64 (.ofNat n)) : opF (.binOp .add 3 (.const (.int .i64 4)) (.tmp 103) 3) env (fun x => opv x env tm 147) H nx = .val (.int .i64 (.ofNat (n + 4))) H nx := by
  show Eff.ofV (binF env .add 3 (.const (.int .i64 4)) (.tmp 103) (.int .i64 4) (tget tm 103)) H nx = _
  rw [ht]
  show Eff.val (wrapV (.ofNat (Nat.add 4 n)) .i64) H nx = _
  have e : Nat.add 4 n = n + 4 := Nat.add_comm 4 n
  rw [e, wrapV_eq, wrap_lim .i64 (n + 4) (by show n + 4 < 9223372036854775808; omega)]

theorem tput_ne {tm : ATmp} {a t : Nat} {v : Value} (ha : a < 256) (ht : t < 256) (h : a ≠ t) : tget (tput tm a v) t = tget tm t := by rw [tget_tput ha ht, if_neg h]
theorem tput_self {tm : ATmp} {a : Nat} {v : Value} (ha : a < 256) : tget (tput tm a v) a = v := by rw [tget_tput ha ha, if_pos rfl]

theorem main_run {Post : Value → World → Prop} {w0 : World} {σ : Sub} {F : Foot} {w : World} (c m ml : Int) {n : Nat} (hn : n < 256) (hh : HR Tryz.prog env.G σ (hW ml) 7 F w)
    (hp : ∀ F' w₁, F'.ro = F.ro → RoFix w0 F' w₁ → Post (.bool true) w₁) : Wn Tryz.prog Post w0 F (G (Frame.enter Tryz.prog 3 #[.int .i64 c, .int .i64 m, .int .u8 (.ofNat n)] .normal) []) w := by
  have C : Closed Tryz.prog true (Wn Tryz.prog Post w0) := wn_closed
  have hK : ConOk Tryz.prog env (Wn Tryz.prog Post w0) K5 := K5_ok
  have snd := sound C env_ok hK 3000
  obtain ⟨S1, S2, S4, h1, h2, h3, t2, n1, t6, d4, n4⟩ := run3_parts c m ml n
  obtain ⟨p0, p1, p2, p3, d0, d1, d2, d3, g0, g1, g2, g3, i0, i1, i2, i3, hr⟩ := o16_facts
  have hfn : env.fn 3 = some Tryz.f3 := by kernel_rfl
  obtain ⟨q1, _⟩ := env_ok.fn 3 Tryz.f3 hfn
  have eargs : (#[.int .i64 c, .int .i64 m, .int .u8 (.ofNat n)] : Array Value) = ([Value.int .i64 c, .int .i64 m, .int .u8 (.ofNat n)].map (ren σ)).toArray := by simp
  rw [eargs]
  obtain ⟨a0, ea, R0⟩ := enter_rel env_ok (args := [.int .i64 c, .int .i64 m, .int .u8 (.ofNat n)]) hfn body3 (show 3 + (Tryz.f3.ntmps - 3) ≤ 256 by decide +kernel) (kind := .normal) (rc := .no) (csf := fun _ => []) (.inl rfl) hh (fun v hv => by
    have : v = .int .i64 c ∨ v = .int .i64 m ∨ v = .int .u8 (.ofNat n) := by simpa using hv
    rcases this with rfl | rfl | rfl <;> exact fun _ _ _ => by simp) (fun fr hk => by simp [tryRecover, hk])
  rw [ea]
  refine codes_run C env_ok hK ps3 (S3 c m ml n) S1 h1 _ (baseK 3 .normal) a0 [] σ F w (fun _ => []) R0 fun σ1 a1 F1 w1 re1 R1 => ?_
  obtain ⟨tm1, nt1, H1, nx1, df1, rc1⟩ := S1
  have n1' : nt1 = 147 := n1
  subst n1'
  have t2' : tget tm1 2 = .int .u8 (.ofNat n) := t2
  refine C.quiet (fun w => stepG_seq) fun w2 r2 => ?_
  refine C.quiet (fun w => stepG_region) fun w3 r3 => ?_
  rw [hr]
  have R3 := (R1.rely r2).rely r3
  refine one_step C env_ok (v := tget tm1 11) i0 g0 (by rw [p0]; exact move_eff (show 11 < 147 by decide)) (fun t e => by rw [d0] at e; cases e; show 101 < 147; decide) R3 fun σ4 a4 F4 w4 re4 R4 => ?_
  rw [d0] at R4
  refine one_step C env_ok (v := tget tm1 2) i1 g1 (by
    rw [p1]
    show opF (.move (.tmp 2)) env (fun x => opv x env (tput tm1 101 (tget tm1 11)) 147) H1 nx1 = _
    rw [move_eff (by decide), tput_ne (by decide) (by decide) (by decide)]) (fun t e => by rw [d1] at e; cases e; show 102 < 147; decide) R4 fun σ5 a5 F5 w5 re5 R5 => ?_
  rw [d1] at R5
  refine one_step C env_ok (v := .int .i64 (.ofNat n)) i2 g2 (by
    rw [p2]
    exact eff_conv hn ((tput_self (tm := tput tm1 101 (tget tm1 11)) (v := tget tm1 2) (a := 102) (by decide)).trans t2')) (fun t e => by rw [d2] at e; cases e; show 103 < 147; decide) R5 fun σ6 a6 F6 w6 re6 R6 => ?_
  rw [d2] at R6
  refine one_step C env_ok (v := .int .i64 (.ofNat (n + 4))) i3 g3 (by
    rw [p3]
    exact eff_add hn (tput_self (tm := tput (tput tm1 101 (tget tm1 11)) 102 (tget tm1 2)) (v := .int .i64 (.ofNat n)) (a := 103) (by decide))) (fun t e => by rw [d3] at e; cases e; show 104 < 147; decide) R6 fun σ7 a7 F7 w7 re7 R7 => ?_
  rw [d3] at R7
  refine snd.ops _ _ _ _ _ _ h2 rfl (baseK 3 .normal) a7 _ σ7 F7 w7 (fun _ => []) R7 fun σ8 a8 F8 w8 re8 R8 => ?_
  refine snd.code _ _ _ _ h3 (baseK 3 .normal) a8 [] σ8 F8 w8 (fun _ => []) R8 fun σ9 a9 F9 w9 re9 R9 todo => ?_
  have hro : F9.ro = F.ro := by
    rw [re9.keeps.ro, re8.keeps.ro, re7.keeps.ro, re6.keeps.ro, re5.keeps.ro, re4.keeps.ro, re1.keeps.ro]
  refine wn_end (fn := Tryz.f3) (t := 6) R9 rfl q1 (by kernel_rfl) (by kernel_rfl) (by rw [n4]; decide) d4 t6 (fun σ => by simp) fun w₁ _ hf => hp F9 w₁ hro hf
end Go.Proofs.Evz

/-
  ENGINE: the statement's function, entered in a world whose two tables are as the row says.
-/
namespace Go.Proofs.Evz
open Go Go.Conc Go.Proofs

def PostB (W : World) (v : Value) (w' : World) : Prop := v = .bool true ∧ w'.os = W.os ∧ w'.output = W.output ∧ w'.tape = W.tape ∧ W.heap.size ≤ w'.heap.size ∧ ∀ k, k < W.heap.size → w'.heap[k]? = W.heap[k]?

theorem tOne_nil (B : Nat) : TOne B #[] :=
  ⟨fun op h => by simp at h, fun said => past_nil.1 said, fun i a h => by simp [touchAt, Trace.act?] at h, fun op h => by simp at h⟩

theorem HD_ok : (7 : Nat) ≤ 2 ^ HD := by decide

theorem start_hr {W : World} {c0 : Array Value} {ml : Int} (h0 : W.heap[0]? = some (.cells c0 346)) (hc0 : c0.toList = asciiL) (h2 : W.heap[2]? = some (.cells #[.int .i64 ml] 3)) :
    HR Tryz.prog env.G (fun i => ⟨i, 0, 0⟩) (hW ml) 7 ⟨fun _ => False, fun b => b < W.heap.size⟩ W := by
  have hG : env.G = 7 := by kernel_rfl
  refine ⟨fun id o hid ho => ?_, fun id id' o o' hid hid' ho ho' e => e, HD_ok, ⟨by rw [hG]; exact Nat.le_refl _, fun g _ => rfl⟩, fun b h => h.elim, fun b hb => ⟨hb, fun h => h⟩⟩
  rcases hW_at hid ho with ⟨rfl, rfl⟩ | ⟨rfl, rfl⟩
  · refine ⟨by decide, c0, (0, 0), h0, ?_, fun i hi => ?_, fun i _ h => by omega, fun h => rfl, fun v hv => (ascii_closed v hv).sc _, ?_⟩
    · have : c0.size = asciiL.length := by rw [← hc0]; simp
      simp [this]
    · have h1 : c0[0 + i]? = asciiL[i]? := by rw [← hc0]; simp
      show c0[0 + i]? = _
      rw [h1]
      cases hx : asciiL[i]? with
      | none => rfl
      | some v => simp only [Option.map_some]; rw [ascii_closed v (List.mem_of_getElem? hx)]
    · show 0 < W.heap.size
      exact lt_of_get h0
  · refine ⟨by decide, #[.int .i64 ml], (0, 0), h2, by simp, fun i hi => ?_, fun i _ h => by omega, fun h => rfl, fun v hv => ?_, ?_⟩
    · have : i = 0 := by simpa using hi
      subst this
      simp
    · have : v = .int .i64 ml := by simpa using hv
      subst this
      exact fun σ1 σ2 _ => by simp
    · show 2 < W.heap.size
      exact lt_of_get h2

theorem the_run (W : World) {c0 : Array Value} {c m ml : Int} {n : Nat} (hn : n < 256) (h0 : W.heap[0]? = some (.cells c0 346)) (hc0 : c0.toList = asciiL) (h2 : W.heap[2]? = some (.cells #[.int .i64 ml] 3)) :
    ∃ M last o w' t', runNT Tryz.prog (M + 1) (solo (G (Frame.enter Tryz.prog 3 #[.int .i64 c, .int .i64 m, .int .u8 (.ofNat n)] .normal) []) W) #[] = (.ended o w', t') ∧
      runN Tryz.prog M (solo (G (Frame.enter Tryz.prog 3 #[.int .i64 c, .int .i64 m, .int .u8 (.ofNat n)] .normal) []) W) = .next last ∧ step Tryz.prog last = .ended o w' ∧ Good Tryz.prog (PostB W) last o w' t' := by
  have hr := start_hr h0 hc0 h2
  have hw := main_run (Post := PostB W) (w0 := W) c m ml hn hr fun F' w₁ hro hf => by
    refine ⟨rfl, hf.os, hf.output, hf.tape, ?_, fun k hk => (hf.ro k (by rw [hro]; exact hk)).2.2⟩
    rcases Nat.eq_zero_or_pos W.heap.size with h | h
    · rw [h]; exact Nat.zero_le _
    · have := (hf.ro (W.heap.size - 1) (by rw [hro]; show W.heap.size - 1 < W.heap.size; omega)).1
      omega
  have hw1 := hw ⟨fun b hb => ⟨hb, fun h => h, rfl⟩, rfl, rfl, rfl⟩
  have := hw1 #[G (Frame.enter Tryz.prog 3 #[.int .i64 c, .int .i64 m, .int .u8 (.ofNat n)] .normal) []] W none #[] (fun _ => 0) rfl (atRel_refl _) (fun i g hi hg => by
    have : i < 1 := by simpa using (Array.getElem?_eq_some_iff.1 hg).1
    omega) (tOne_nil _)
  rw [← solo_eq_crowd] at this
  exact this
end Go.Proofs.Evz
