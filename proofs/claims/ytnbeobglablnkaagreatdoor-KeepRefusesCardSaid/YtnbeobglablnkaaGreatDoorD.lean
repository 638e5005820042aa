/-
  ENGINE: trace.Decode and coming of this program: what their code is.
-/
import Derived.Test.YtnbeobglablnkaaGreatDoorF
import Derived.Test.YtnbeobglablnkaaGreatDoorEc
namespace Go.Proofs.Evz
open Go Go.Conc Go.Proofs
set_option maxRecDepth 100000

noncomputable def B14 : Code := Tryz.f14.body.getD .skip
noncomputable def B25 : Code := Tryz.f25.body.getD .skip
noncomputable def r14 (n : Nat) : Code := match n with
  | 0 => B14
  | n + 1 => cR (r14 n)
noncomputable def o14 (n : Nat) : Array Oper := rOps (cL (r14 n))
/-- R4 and the loop. -/
noncomputable def s14 : Code := cL (r14 4)
noncomputable def l14 : Code := cI (cI (cR s14))
noncomputable def tm14a : ATmp := (outSt (ev env KN 200 (.code (cL (r14 0))) ⟨argTm [sE] 0 .nil, 36, .nil, 0, [], .no⟩)).tm
noncomputable def st14b (a b : Nat) : St := outSt (ev env KN 200 (.code (cL (r14 2))) ⟨tput (tput (tput (tput tm14a 8 (.chan (some a))) 9 (.chan (some b))) 5 (.chan (some a))) 6 (.chan (some b)), 36, .nil, 0, [], .no⟩)
noncomputable def z14 : Value := Tryz.t80.zero.getD undef
noncomputable def tm14c (a b : Nat) : ATmp := tput (tput (tput (tput (tput (st14b a b).tm 11 sE) 12 (.chan (some a))) 13 (.chan (some b))) 14 (.chan (some a))) 15 (.tuple #[z14, .bool false])
noncomputable def tm14d (a b : Nat) : ATmp := (outSt (ev env KN 200 (.ops (rOps (cL l14)) 1 ((rOps (cL l14)).toList.drop 1)) ⟨tm14c a b, 36, .nil, 0, [], .no⟩)).tm
noncomputable def tm14e (a b : Nat) : ATmp := (outSt (ev env KN 200 (.code (cR (r14 4))) ⟨tm14d a b, 36, .nil, 0, [], .no⟩)).tm

noncomputable def dec14 : DecFacts Tryz.prog env 14 25 where
  fn := Tryz.f14
  fnT := Tryz.f25
  bodyT := B25
  R0 := cL (r14 0)
  R2 := cL (r14 2)
  X2 := cR l14
  E := cR (r14 4)
  i1 := rId (cL (r14 1))
  i3 := rId (cL (r14 3))
  i4 := rId (cL s14)
  i5 := rId (cL l14)
  o1 := o14 1
  o3 := o14 3
  o4 := rOps (cL s14)
  o5 := rOps (cL l14)
  n := 200
  nt := 36
  p0 := opAt (o14 1) 0
  p1 := opAt (o14 1) 1
  p2 := opAt (o14 1) 2
  p3 := opAt (o14 1) 3
  q0 := opAt (o14 3) 0
  q1 := opAt (o14 3) 1
  q2 := opAt (o14 3) 2
  q3 := opAt (o14 3) 3
  m0 := opAt (rOps (cL s14)) 0
  v0 := opAt (rOps (cL l14)) 0
  tA := 76
  tB := 77
  elA := 80
  elB := 107
  dirA := .both
  dirB := .both
  iA := Tryz.t80
  iB := Tryz.t107
  dA := 8
  dB := 9
  d5 := 5
  d6 := 6
  d11 := 11
  d12 := 12
  d13 := 13
  d14 := 14
  d15 := 15
  ats := closeAts (st14b 0 0).df
  ty := closeTy (st14b 0 0).df
  ks := closeKs (st14b 0 0).df
  gty := goTys (opAt (o14 3) 3).op
  z := z14
  tm1 := tm14a
  tm3 := fun a b => (st14b a b).tm
  tm6 := tm14d
  tm7 := tm14e
  hfn := by kernel_rfl
  hB := by kernel_rfl
  hnt := by kernel_rfl
  hle := by decide
  hfnT := by kernel_rfl
  hbodyT := by kernel_rfl
  hresT := by kernel_rfl
  hleT := by decide +kernel
  hG := by decide +kernel
  hevT := by kernel_rfl
  hdfT := by kernel_rfl
  h0 := by intro H nx; kernel_rfl
  orders := orders4 (by kernel_rfl) (by kernel_rfl) (by kernel_rfl) (by kernel_rfl) (by kernel_rfl) (by kernel_rfl) (by kernel_rfl)
  ho1 := by kernel_rfl
  hp0 := ⟨by kernel_rfl, by kernel_rfl, by kernel_rfl⟩
  hp1 := ⟨by kernel_rfl, by kernel_rfl, by kernel_rfl⟩
  hp2 := ⟨by kernel_rfl, by kernel_rfl, by kernel_rfl⟩
  hp3 := ⟨by kernel_rfl, by kernel_rfl, by kernel_rfl⟩
  hA := ⟨Tryz.underlying76, info_of Tryz.type80, by kernel_rfl⟩
  hBB := ⟨Tryz.underlying77, info_of Tryz.type107⟩
  hlt := by decide
  hne := by decide
  h2 := by intro H nx a b; kernel_rfl
  ho3 := by kernel_rfl
  hq0 := ⟨by kernel_rfl, by kernel_rfl, by kernel_rfl⟩
  hq1 := ⟨by kernel_rfl, by kernel_rfl, by kernel_rfl⟩
  hq2 := ⟨by kernel_rfl, by kernel_rfl, by kernel_rfl⟩
  hq3 := ⟨by kernel_rfl, by kernel_rfl, by kernel_rfl⟩
  g3 := by intro a b; exact ⟨by kernel_rfl, by kernel_rfl, by kernel_rfl, by kernel_rfl, by kernel_rfl, by kernel_rfl, by kernel_rfl⟩
  ho4 := by kernel_rfl
  hm0 := ⟨by kernel_rfl, by kernel_rfl, by kernel_rfl⟩
  ho5 := by kernel_rfl
  hv0 := ⟨by kernel_rfl, by kernel_rfl, by kernel_rfl⟩
  h5 := by intro H nx a b; kernel_rfl
  h6 := by intro H nx a b; kernel_rfl
  h7 := by intro H nx a b; kernel_rfl
  h8 := by intro H nx a b; kernel_rfl
  hz := closedB_ok 6 _ (by kernel_rfl)

end Go.Proofs.Evz

/-
  ENGINE: coming of this program.
-/
namespace Go.Proofs.Evz
open Go Go.Conc Go.Proofs
set_option maxRecDepth 100000
noncomputable def B64 : Code := Tryz.f64.body.getD .skip
noncomputable def r64 : Nat → Code
  | 0 => B64
  | n + 1 => cR (r64 n)
noncomputable def tm64a : ATmp := (outSt (ev env KN 200 (.code (cL (r64 0))) ⟨argTm [mArg] 0 .nil, 32, mHeap 92, 9, [], .no⟩)).tm
noncomputable def tm64b : ATmp := (outSt (ev env KN 200 (.code (cL (r64 2))) ⟨tput (tput tm64a 6 (.chan (some 9))) 3 (.chan (some 9)), 32, mHeap 92, 10, [], .no⟩)).tm
noncomputable def tm64c : ATmp := (outSt (ev env KN 200 (.code (cL (r64 3))) ⟨tm64b, 32, mHeap 92, 10, [], .no⟩)).tm
noncomputable def z64 : Value := Tryz.t50.zero.getD undef
noncomputable def o64 : Array Oper := rOps (cL (r64 4))
noncomputable def tm64d : ATmp := (outSt (ev env KN 200 (.ops o64 1 (o64.toList.drop 1)) ⟨tput tm64c 28 (noneSel z64), 32, mHeap 92, 10, [], .no⟩)).tm
noncomputable def tm64e : ATmp := (outSt (ev env KN 200 (.code (cR (r64 4))) ⟨tm64d, 32, mHeap 92, 10, [], .no⟩)).tm

noncomputable def com64 : ComFacts Tryz.prog env 64 where
  fn := Tryz.f64
  R0 := cL (r64 0)
  C2 := cL (r64 2)
  R5 := cL (r64 3)
  E := cR (r64 4)
  i1 := rId (cL (r64 1))
  i6 := rId (cL (r64 4))
  o1 := rOps (cL (r64 1))
  o6 := o64
  n := 200
  nt := 32
  p0 := opAt (rOps (cL (r64 1))) 0
  p1 := opAt (rOps (cL (r64 1))) 1
  s0 := opAt o64 0
  tC := 214
  el := 50
  dir := .both
  ti := Tryz.t50
  t6 := 6
  t3 := 3
  t27 := 27
  t28 := 28
  z := z64
  tM := 92
  tm1 := tm64a
  tm2 := tm64b
  tm5 := tm64c
  tm6 := tm64d
  tm7 := tm64e
  hfn := by kernel_rfl
  hB := by kernel_rfl
  hnt := by kernel_rfl
  hle := by decide
  hG := by decide +kernel
  h0 := by kernel_rfl
  ho1 := by kernel_rfl
  hp0 := ⟨by kernel_rfl, by kernel_rfl, by kernel_rfl⟩
  hp1 := ⟨by kernel_rfl, by kernel_rfl, by kernel_rfl⟩
  hA := ⟨Tryz.underlying214, info_of Tryz.type50, by kernel_rfl, by decide +kernel⟩
  hlt := by decide
  h2 := by kernel_rfl
  h5 := by kernel_rfl
  ho6 := by kernel_rfl
  hs0 := ⟨by kernel_rfl, by kernel_rfl, by kernel_rfl⟩
  g27 := by kernel_rfl
  hz := closedB_ok 6 _ (by kernel_rfl)
  h6 := by kernel_rfl
  h7 := by kernel_rfl
  h8 := by kernel_rfl
end Go.Proofs.Evz
