/-
  ENGINE: awake's run; the contracts of replay.New and awake.
-/
import Derived.Test.YtnbeobglablnkaaGreatDoorR
namespace Go.Proofs.Evz
open Go Go.Conc Go.Proofs
set_option maxRecDepth 100000
theorem crW_run : crB crW (ev env K4 3000 (.call crW.f crW.vs) ⟨.nil, 0, crW.Hs, crW.nxs, [], .no⟩) = true := by kernel_rfl

/-- replay.New, whatever bytealg.MaxLen holds. -/
noncomputable def crRK : Con := fun f vs H nx =>
  bif Nat.beq f 5 && leq (veq 8) vs (crR 0).vs && Nat.ble 7 nx && Nat.ble (nx + ((crR 0).nxs' - 7)) (2 ^ HD) && objEq (hsA.at 0) (H.at 0) && maxB (H.at 2) then
    match rnK 8 ((crR 0).φ nx) (crR 0).v, adoptK ((crR 0).φ nx) (crR 0).L H with
    | some v', some H' => some (v', H', nx + ((crR 0).nxs' - 7))
    | _, _ => none
  else none

section
variable {Post : Value → World → Prop} {w0 : World}
theorem crR_ok (ml : Int) : CROk Tryz.prog env (crR ml) := by
  refine ⟨fun v hv => ?_, fun i o hi ho => ?_, show env.G ≤ 7 by decide +kernel⟩
  · have h : (crR ml).vs.all (closedB 6) = true := by kernel_rfl
    exact closedB_ok 6 v (List.all_eq_true.1 h v hv)
  · have ho' : (hW ml).at i = some o := ho
    rcases hW_at hi ho' with ⟨rfl, rfl⟩ | ⟨rfl, rfl⟩
    · exact ⟨by simp [crR], show 0 < 7 by decide, 346, _, false, true, rfl, ascii_closed⟩
    · refine ⟨by simp [crR], show 2 < 7 by decide, 3, _, false, true, rfl, fun v hv => ?_⟩
      have : v = .int .i64 ml := by simpa using hv
      subst this
      exact fun σ => by simp

theorem conOk_R : ConOk Tryz.prog env (Wn Tryz.prog Post w0) crRK := by
  intro f vs H nx v H' nx' h
  unfold crRK at h
  cases hb' : (Nat.beq f 5 && leq (veq 8) vs (crR 0).vs && Nat.ble 7 nx && Nat.ble (nx + ((crR 0).nxs' - 7)) (2 ^ HD) && objEq (hsA.at 0) (H.at 0) && maxB (H.at 2)) with
  | false => rw [hb'] at h; cases h
  | true =>
    rw [hb'] at h
    simp only [cond_true] at h
    simp only [Bool.and_eq_true] at hb'
    obtain ⟨⟨⟨⟨⟨h1, h2⟩, h3⟩, h4⟩, h5⟩, h6⟩ := hb'
    unfold maxB at h6
    split at h6
    · rename_i t ml ho
      have et := Nat.eq_of_beq_eq_true h6
      subst et
      have hc := conOk_cr (Post := Post) (w0 := w0) env_ok K4_ok (crR_ok ml) (n := 3000) (crB_of_0 (ml := ml) rfl rfl (crR_run ml)) (fn := Tryz.f5) (by kernel_rfl) (by kernel_rfl)
      refine hc f vs H nx v H' nx' ?_
      have c1 : (Nat.beq f (crR ml).f && leq (veq 8) vs (crR ml).vs && Nat.ble (crR ml).nxs nx && Nat.ble (nx + ((crR ml).nxs' - (crR ml).nxs)) (2 ^ HD) && (crR ml).ids.all (fun i => objEq ((crR ml).Hs.at i) (H.at i))) = true := by
        have e1 : (crR ml).ids = [0, 2] := rfl
        have e2 : (crR ml).Hs = hW ml := rfl
        have e3 : objEq ((hW ml).at 0) (H.at 0) = true := by rw [hW_zero, ← hsA_zero]; exact h5
        simp only [Bool.and_eq_true, e1, e2, List.all_cons, List.all_nil, hW_two, ho, objEq_int, and_true]
        exact ⟨⟨⟨⟨h1, h2⟩, h3⟩, h4⟩, e3⟩
      unfold crK
      rw [c1]
      exact h
    · cases h6

noncomputable def K5 : Con := orK crRK (orK (crK crW) K4)
theorem K5_ok : ConOk Tryz.prog env (Wn Tryz.prog Post w0) K5 :=
  conOk_or conOk_R (conOk_or (conOk_cr env_ok K4_ok (crA_ok rfl rfl rfl (by kernel_rfl)) crW_run (fn := Tryz.f13) (by kernel_rfl) (by kernel_rfl)) K4_ok)
end
end Go.Proofs.Evz
