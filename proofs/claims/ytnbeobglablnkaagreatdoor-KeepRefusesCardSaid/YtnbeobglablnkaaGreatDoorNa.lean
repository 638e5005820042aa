/-
  ENGINE: cmp.isNaN of an int: no.
-/
import Derived.Test.YtnbeobglablnkaaGreatDoorT
namespace Go.Proofs.Evz
open Go Go.Conc Go.Proofs
set_option maxRecDepth 100000
theorem neq_self {xo yo : Operand} (x : Int) : binF env .neq 3 xo yo (.int .i64 x) (.int .i64 x) = some (.bool false) := by
  cases x with
  | ofNat a =>
    have hI : intBin (.ofNat a) (.ofNat a) .neq .i64 = some (.bool false) := by
      show some (Value.bool (@Bool.rec (fun _ => Bool) true false (Nat.beq a a))) = _
      have : Nat.beq a a = true := by simp
      rw [this]
    show (match keq .i64 .i64, intBin (.ofNat a) (.ofNat a) .neq .i64 with | true, some v => some v | _, _ => aBin env .neq 3 xo yo (.int .i64 (.ofNat a)) (.int .i64 (.ofNat a))) = _
    rw [hI]; rfl
  | negSucc a =>
    show pureOf (Go.binOp .neq 3 (.int .i64 (.negSucc a)) (.int .i64 (.negSucc a))) = _
    simp [Go.binOp, Op.intCmp, pureOf]
    rfl
noncomputable def B56 : Code := Tryz.f56.body.getD .skip
noncomputable def o56 : Array Oper := rOps (cL (cR B56))
noncomputable def e56 : Code := cR (cR B56)
noncomputable def tm56a (x : Int) : ATmp := (outSt (ev env KN 50 (.code (cL B56)) ⟨argTm [.int .i64 x] 0 .nil, 6, .nil, 0, [], .no⟩)).tm
noncomputable def tm56b (x : Int) : ATmp := tput (tput (tput (tm56a x) 3 (.int .i64 x)) 4 (.int .i64 x)) 5 (.bool false)
noncomputable def tm56c (x : Int) : ATmp := (outSt (ev env KN 50 (.ops o56 3 (o56.toList.drop 3)) ⟨tm56b x, 6, .nil, 0, [], .no⟩)).tm
noncomputable def nanK (fi : FuncId) : Con := fun f vs H nx =>
  bif Nat.beq f fi then
    match vs with
    | [.int .i64 _] => some (.bool false, H, nx)
    | _ => none
  else none
theorem nan_body : Tryz.f56.body = some (.seq (cL B56) (.seq (.region (rId (cL (cR B56))) o56 false) e56)) := by kernel_rfl
theorem nan_0 (x : Int) (H : AHeap) (nx : Nat) : ev env KN 50 (.code (cL B56)) ⟨argTm [.int .i64 x] 0 .nil, 6, H, nx, [], .no⟩ = some (.out .normal ⟨tm56a x, 6, H, nx, [], .no⟩) := by kernel_rfl
theorem nan_3 (x : Int) (H : AHeap) (nx : Nat) : ev env KN 50 (.ops o56 3 (o56.toList.drop 3)) ⟨tm56b x, 6, H, nx, [], .no⟩ = some (.out .normal ⟨tm56c x, 6, H, nx, [], .no⟩) := by kernel_rfl
theorem nan_4 (x : Int) (H : AHeap) (nx : Nat) : ev env KN 50 (.code e56) ⟨tm56c x, 6, H, nx, [], .no⟩ = some (.out .ret ⟨tm56c x, 6, H, nx, [], .no⟩) := by kernel_rfl
theorem nan_5 (x : Int) (H : AHeap) (nx : Nat) : ev env KN 50 (.unwind Tryz.f56 none) ⟨tm56c x, 6, H, nx, [], .no⟩ = some (.ret (.bool false) H nx .no) := by kernel_rfl
theorem nan_o : (opAt o56 0).op = .move (.tmp 0) ∧ (opAt o56 1).op = .move (.tmp 0) ∧ (opAt o56 2).op = .binOp .neq 3 (.tmp 3) (.tmp 4) 3 ∧ (opAt o56 0).dst = some 3 ∧ (opAt o56 1).dst = some 4 ∧ (opAt o56 2).dst = some 5 ∧
    (opAt o56 0).guard = none ∧ (opAt o56 1).guard = none ∧ (opAt o56 2).guard = none ∧ o56[0]? = some (opAt o56 0) ∧ o56[1]? = some (opAt o56 1) ∧ o56[2]? = some (opAt o56 2) ∧ List.range o56.size = 0 :: 1 :: 2 :: List.range' 3 (o56.toList.drop 3).length :=
  ⟨by kernel_rfl, by kernel_rfl, by kernel_rfl, by kernel_rfl, by kernel_rfl, by kernel_rfl, by kernel_rfl, by kernel_rfl, by kernel_rfl, by kernel_rfl, by kernel_rfl, by kernel_rfl, by kernel_rfl⟩
theorem nan_t (x : Int) : tget (tm56a x) 0 = .int .i64 x ∧ tget (tput (tm56a x) 3 (.int .i64 x)) 0 = .int .i64 x ∧ tget (tput (tput (tm56a x) 3 (.int .i64 x)) 4 (.int .i64 x)) 3 = .int .i64 x ∧ tget (tput (tput (tm56a x) 3 (.int .i64 x)) 4 (.int .i64 x)) 4 = .int .i64 x :=
  ⟨by kernel_rfl, by kernel_rfl, by kernel_rfl, by kernel_rfl⟩

section
variable {Post : Value → World → Prop} {w0 : World}
theorem conOk_nan : ConOk Tryz.prog env (Wn Tryz.prog Post w0) (nanK 56) := by
  intro f vs H nx v H' nx' h σ F w hh hs
  unfold nanK at h
  cases hb' : Nat.beq f 56 with
  | false => rw [hb'] at h; cases h
  | true =>
    rw [hb'] at h
    simp only [cond_true] at h
    split at h
    · rename_i x
      simp only [Option.some.injEq, Prod.mk.injEq] at h
      obtain ⟨rfl, rfl, rfl⟩ := h
      have e1 := Nat.eq_of_beq_eq_true hb'
      subst e1
      have hfn : env.fn 56 = some Tryz.f56 := by kernel_rfl
      obtain ⟨q1, q2⟩ := env_ok.fn 56 Tryz.f56 hfn
      refine .inr ⟨⟨Tryz.f56, q1, q2, by kernel_rfl⟩, fun fr cs hend => ?_⟩
      have C : Closed Tryz.prog true (Wn Tryz.prog Post w0) := wn_closed
      have snd := sound C env_ok (conOk_none (W := Wn Tryz.prog Post w0)) 50
      obtain ⟨a0, ea, R0⟩ := enter_rel env_ok (args := [.int .i64 x]) hfn nan_body (show 1 + (Tryz.f56.ntmps - 1) ≤ 256 by decide +kernel) (kind := .normal) (rc := .no) (csf := fun _ => fr :: cs) (.inl rfl) hh hs (fun fr hk => by simp [tryRecover, hk])
      rw [ea]
      obtain ⟨p0, p1, p2, d0, d1, d2, g0, g1, g2, i0, i1, i2, hr⟩ := nan_o
      obtain ⟨t0, t1, t2, t3⟩ := nan_t x
      refine C.quiet (fun w => stepG_seq) fun w1 r1 => ?_
      refine snd.code _ _ _ _ (nan_0 x H nx) _ a0 _ σ F w1 (fun _ => fr :: cs) (R0.rely r1) fun σ1 a1 F1 w1' re1 R1 => ?_
      refine C.quiet (fun w => stepG_seq) fun w2 r2 => ?_
      refine C.quiet (fun w => stepG_region) fun w3 r3 => ?_
      rw [hr]
      refine one_step C env_ok (v := .int .i64 x) i0 g0 (by rw [p0]; show opF (.move (.tmp 0)) env (fun y => opv y env (tm56a x) 6) H nx = _; rw [move_eff (by decide), t0]) (fun t e => by rw [d0] at e; cases e; show 3 < 6; decide) ((R1.rely r2).rely r3) fun σ2 a2 F2 w4 re2 R2 => ?_
      rw [d0] at R2
      refine one_step C env_ok (v := .int .i64 x) i1 g1 (by rw [p1]; show opF (.move (.tmp 0)) env (fun y => opv y env (tput (tm56a x) 3 (.int .i64 x)) 6) H nx = _; rw [move_eff (by decide), t1]) (fun t e => by rw [d1] at e; cases e; show 4 < 6; decide) R2 fun σ3 a3 F3 w5 re3 R3 => ?_
      rw [d1] at R3
      refine one_step C env_ok (v := .bool false) i2 g2 (by
        rw [p2]
        show Eff.ofV (binF env .neq 3 (.tmp 3) (.tmp 4) (tget (tput (tput (tm56a x) 3 (.int .i64 x)) 4 (.int .i64 x)) 3) (tget (tput (tput (tm56a x) 3 (.int .i64 x)) 4 (.int .i64 x)) 4)) H nx = _
        rw [t2, t3, neq_self]; rfl) (fun t e => by rw [d2] at e; cases e; show 5 < 6; decide) R3 fun σ4 a4 F4 w6 re4 R4 => ?_
      rw [d2] at R4
      refine snd.ops _ _ _ _ _ _ (nan_3 x H nx) rfl _ a4 _ σ4 F4 w6 (fun _ => fr :: cs) R4 fun σ5 a5 F5 w7 re5 R5 => ?_
      refine snd.code _ _ _ _ (nan_4 x H nx) _ a5 [] σ5 F5 w7 (fun _ => fr :: cs) R5 fun σ6 a6 F6 w8 re6 R6 todo => ?_
      refine snd.unwind Tryz.f56 none _ _ (nan_5 x H nx) _ a6 todo σ6 F6 w8 (fun _ => fr :: cs) R6.toPRel (.inr R6.tmp) q1 (.inl rfl) trivial ?_
      intro σ7 F7 w9 re7 hh7 hsc
      show Wn Tryz.prog Post w0 F7 (G (fr.finish (ren σ7 (.bool false))) cs) w9
      exact hend σ7 F7 w9 ((((((Reach.rely r1).trans re1).trans (Reach.rely r2)).trans (Reach.rely r3)).trans re2).trans (((re3.trans re4).trans re5).trans (re6.trans re7))) hh7 hsc
    · cases h
end
noncomputable def K4 : Con := orK (nanK 56) K3
theorem K4_ok {Post : Value → World → Prop} {w0 : World} : ConOk Tryz.prog env (Wn Tryz.prog Post w0) K4 := conOk_or conOk_nan K3_ok
end Go.Proofs.Evz
