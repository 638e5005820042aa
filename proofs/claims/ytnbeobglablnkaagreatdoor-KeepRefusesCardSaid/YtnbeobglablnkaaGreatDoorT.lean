/-
  ENGINE: strings.Contains of this program at two places: whatever bytealg.MaxLen holds.
-/
import Derived.Test.YtnbeobglablnkaaGreatDoorD
import Derived.Test.YtnbeobglablnkaaGreatDoorF
namespace Go.Proofs.Evz
open Go Go.Conc Go.Proofs
set_option maxRecDepth 100000
noncomputable def hay : ByteArray := ⟨⟨[32, 105, 102, 32, 119, 104, 105, 108, 101, 32, 116, 114, 121, 32, 98, 114, 101, 97, 107, 32, 99, 111, 110, 116, 105, 110, 117, 101, 32, 114, 101, 116, 117, 114, 110, 32, 116, 104, 114, 111, 119, 32, 108, 101, 116, 32, 99, 111, 110, 115, 116, 32]⟩⟩
noncomputable def needA : ByteArray := ⟨⟨[32, 108, 101, 116, 32]⟩⟩
noncomputable def needB : ByteArray := ⟨⟨[32, 119, 104, 105, 108, 101, 32]⟩⟩
noncomputable def K2 : Con := orK (idxK 343) (orK (subK 378 2 hay needA (some 41)) (subK 378 2 hay needB (some 3)))
noncomputable def hsM (m : Int) : AHeap := AHeap.put .nil 2 (some (.cells 3 [.int .i64 m] false true))
noncomputable def crC (b : ByteArray) (m : Int) : CR where
  f := 178
  vs := [.string hay, .string b]
  Hs := hsM m
  ids := [2]
  nxs := 7
  nxs' := 7
  v := .bool true
  L := []

theorem ieq_self (m : Int) : ieq m m = true := by
  cases m <;> simp [ieq]
theorem objEq_int (m : Int) : objEq (some (.cells 3 [.int .i64 m] false true)) (some (.cells 3 [.int .i64 m] false true)) = true := by
  simp [objEq, leq, veq, keq, ieq_self, beqb]
theorem hsM_at (m : Int) : (hsM m).at 2 = some (.cells 3 [.int .i64 m] false true) := by
  unfold hsM
  rw [AHeap.at_put _ _ _ _ (by decide) (by decide), if_pos rfl]
theorem crB_C {b : ByteArray} {m : Int} {rc : RC} {x : Option Res} (h : x = some (.ret (.bool true) (hsM m) 7 rc)) : crB (crC b m) x = true := by
  subst h
  have e1 : (crC b m).ids = [2] := rfl
  have e2 : (crC b m).Hs = hsM m := rfl
  have e3 : (crC b m).L = [] := rfl
  simp only [crB, e1, e2, e3, List.all_cons, List.all_nil, hsM_at, objEq_int]
  rfl

theorem runA_neg (k : Nat) : ev env K2 800 (.call 178 [.string hay, .string needA]) ⟨.nil, 0, hsM (.negSucc k), 7, [], .no⟩ = some (.ret (.bool true) (hsM (.negSucc k)) 7 .no) := by kernel_rfl
theorem runA_0 : ev env K2 800 (.call 178 [.string hay, .string needA]) ⟨.nil, 0, hsM (.ofNat 0), 7, [], .no⟩ = some (.ret (.bool true) (hsM (.ofNat 0)) 7 .no) := by kernel_rfl
theorem runA_1 : ev env K2 800 (.call 178 [.string hay, .string needA]) ⟨.nil, 0, hsM (.ofNat 1), 7, [], .no⟩ = some (.ret (.bool true) (hsM (.ofNat 1)) 7 .no) := by kernel_rfl
theorem runA_2 : ev env K2 800 (.call 178 [.string hay, .string needA]) ⟨.nil, 0, hsM (.ofNat 2), 7, [], .no⟩ = some (.ret (.bool true) (hsM (.ofNat 2)) 7 .no) := by kernel_rfl
theorem runA_3 : ev env K2 800 (.call 178 [.string hay, .string needA]) ⟨.nil, 0, hsM (.ofNat 3), 7, [], .no⟩ = some (.ret (.bool true) (hsM (.ofNat 3)) 7 .no) := by kernel_rfl
theorem runA_4 : ev env K2 800 (.call 178 [.string hay, .string needA]) ⟨.nil, 0, hsM (.ofNat 4), 7, [], .no⟩ = some (.ret (.bool true) (hsM (.ofNat 4)) 7 .no) := by kernel_rfl
theorem runA_up (k : Nat) : ev env K2 800 (.call 178 [.string hay, .string needA]) ⟨.nil, 0, hsM (.ofNat (k + 5)), 7, [], .no⟩ = some (.ret (.bool true) (hsM (.ofNat (k + 5))) 7 .no) := by kernel_rfl
theorem runA : ∀ m : Int, ev env K2 800 (.call 178 [.string hay, .string needA]) ⟨.nil, 0, hsM m, 7, [], .no⟩ = some (.ret (.bool true) (hsM m) 7 .no)
  | .negSucc k => runA_neg k
  | .ofNat 0 => runA_0
  | .ofNat 1 => runA_1
  | .ofNat 2 => runA_2
  | .ofNat 3 => runA_3
  | .ofNat 4 => runA_4
  | .ofNat (k + 5) => runA_up k
theorem runB_neg (k : Nat) : ev env K2 800 (.call 178 [.string hay, .string needB]) ⟨.nil, 0, hsM (.negSucc k), 7, [], .no⟩ = some (.ret (.bool true) (hsM (.negSucc k)) 7 .no) := by kernel_rfl
theorem runB_0 : ev env K2 800 (.call 178 [.string hay, .string needB]) ⟨.nil, 0, hsM (.ofNat 0), 7, [], .no⟩ = some (.ret (.bool true) (hsM (.ofNat 0)) 7 .no) := by kernel_rfl
theorem runB_1 : ev env K2 800 (.call 178 [.string hay, .string needB]) ⟨.nil, 0, hsM (.ofNat 1), 7, [], .no⟩ = some (.ret (.bool true) (hsM (.ofNat 1)) 7 .no) := by kernel_rfl
theorem runB_2 : ev env K2 800 (.call 178 [.string hay, .string needB]) ⟨.nil, 0, hsM (.ofNat 2), 7, [], .no⟩ = some (.ret (.bool true) (hsM (.ofNat 2)) 7 .no) := by kernel_rfl
theorem runB_3 : ev env K2 800 (.call 178 [.string hay, .string needB]) ⟨.nil, 0, hsM (.ofNat 3), 7, [], .no⟩ = some (.ret (.bool true) (hsM (.ofNat 3)) 7 .no) := by kernel_rfl
theorem runB_4 : ev env K2 800 (.call 178 [.string hay, .string needB]) ⟨.nil, 0, hsM (.ofNat 4), 7, [], .no⟩ = some (.ret (.bool true) (hsM (.ofNat 4)) 7 .no) := by kernel_rfl
theorem runB_5 : ev env K2 800 (.call 178 [.string hay, .string needB]) ⟨.nil, 0, hsM (.ofNat 5), 7, [], .no⟩ = some (.ret (.bool true) (hsM (.ofNat 5)) 7 .no) := by kernel_rfl
theorem runB_6 : ev env K2 800 (.call 178 [.string hay, .string needB]) ⟨.nil, 0, hsM (.ofNat 6), 7, [], .no⟩ = some (.ret (.bool true) (hsM (.ofNat 6)) 7 .no) := by kernel_rfl
theorem runB_up (k : Nat) : ev env K2 800 (.call 178 [.string hay, .string needB]) ⟨.nil, 0, hsM (.ofNat (k + 7)), 7, [], .no⟩ = some (.ret (.bool true) (hsM (.ofNat (k + 7))) 7 .no) := by kernel_rfl
theorem runB : ∀ m : Int, ev env K2 800 (.call 178 [.string hay, .string needB]) ⟨.nil, 0, hsM m, 7, [], .no⟩ = some (.ret (.bool true) (hsM m) 7 .no)
  | .negSucc k => runB_neg k
  | .ofNat 0 => runB_0
  | .ofNat 1 => runB_1
  | .ofNat 2 => runB_2
  | .ofNat 3 => runB_3
  | .ofNat 4 => runB_4
  | .ofNat 5 => runB_5
  | .ofNat 6 => runB_6
  | .ofNat (k + 7) => runB_up k
end Go.Proofs.Evz

/-
  ENGINE: all contracts of this program.
-/
namespace Go.Proofs.Evz
open Go Go.Conc Go.Proofs
set_option maxRecDepth 100000

section
variable {Post : Value → World → Prop} {w0 : World}
theorem max_at : Tryz.prog.globals.findIdx? (·.name == "internal/bytealg.MaxLen") = some 2 := by kernel_rfl
theorem idx_ok : ConOk Tryz.prog env (Wn Tryz.prog Post w0) (idxK 343) :=
  conOk_idx Tryz.func343 (by decide +kernel) (by kernel_rfl) (by kernel_rfl) (by kernel_rfl)
theorem K2_ok : ConOk Tryz.prog env (Wn Tryz.prog Post w0) K2 :=
  conOk_or idx_ok (conOk_or
    (conOk_sub Tryz.func378 (by decide +kernel) (by kernel_rfl) (by kernel_rfl) (by kernel_rfl) max_at (by decide +kernel) (by decide +kernel) (by decide +kernel) (by kernel_rfl))
    (conOk_sub Tryz.func378 (by decide +kernel) (by kernel_rfl) (by kernel_rfl) (by kernel_rfl) max_at (by decide +kernel) (by decide +kernel) (by decide +kernel) (by kernel_rfl)))

noncomputable def maxB : Option AObj → Bool
  | some (.cells t [.int .i64 _] false true) => Nat.beq t 3
  | _ => false
/-- strings.Contains at one place. -/
noncomputable def ctnK (b : ByteArray) : Con := fun f vs H nx =>
  bif Nat.beq f 178 && leq (veq 8) vs [.string hay, .string b] && maxB (H.at 2) && Nat.ble 7 nx && Nat.ble nx (2 ^ HD) then some (.bool true, H, nx) else none

theorem closed_str (s : ByteArray) : Closedv (.string s) := fun σ => by simp
theorem crC_ok (b : ByteArray) (m : Int) : CROk Tryz.prog env (crC b m) := by
  refine ⟨fun v hv => ?_, fun i o hi ho => ?_, show env.G ≤ 7 by decide +kernel⟩
  · have : v = .string hay ∨ v = .string b := by simpa [crC] using hv
    rcases this with rfl | rfl <;> exact closed_str _
  · have ho' : (hsM m).at i = some o := ho
    unfold hsM at ho'
    rw [AHeap.at_put _ _ _ _ (by decide) hi] at ho'
    split at ho'
    · rename_i e
      cases ho'
      refine ⟨by simp [crC, ← e], by show i < 7; omega, 3, _, false, true, rfl, fun v hv => ?_⟩
      have : v = .int .i64 m := by simpa using hv
      subst this
      exact fun σ => by simp
    · cases ho'

theorem conOk_ctn {b : ByteArray} (hrun : ∀ m : Int, ev env K2 800 (.call 178 [.string hay, .string b]) ⟨.nil, 0, hsM m, 7, [], .no⟩ = some (.ret (.bool true) (hsM m) 7 .no)) : ConOk Tryz.prog env (Wn Tryz.prog Post w0) (ctnK b) := by
  intro f vs H nx v H' nx' h
  unfold ctnK at h
  cases hb' : (Nat.beq f 178 && leq (veq 8) vs [.string hay, .string b] && maxB (H.at 2) && Nat.ble 7 nx && Nat.ble nx (2 ^ HD)) with
  | false => rw [hb'] at h; cases h
  | true =>
    rw [hb'] at h
    simp only [cond_true, Option.some.injEq, Prod.mk.injEq] at h
    obtain ⟨rfl, rfl, rfl⟩ := h
    simp only [Bool.and_eq_true] at hb'
    obtain ⟨⟨⟨⟨h1, h2⟩, h3⟩, h4⟩, h5⟩ := hb'
    unfold maxB at h3
    split at h3
    · rename_i t m ho
      have et := Nat.eq_of_beq_eq_true h3
      subst et
      have hc := conOk_cr (Post := Post) (w0 := w0) env_ok K2_ok (crC_ok b m) (n := 800) (crB_C (b := b) (m := m) (rc := .no) (hrun m)) (fn := Tryz.f178) (by kernel_rfl) (by kernel_rfl)
      have e1 := Nat.eq_of_beq_eq_true h1
      have e2 := leq_ok (veq_ok 8) h2
      subst e1; subst e2
      refine hc _ _ H nx (.bool true) H nx ?_
      have c1 : (Nat.beq 178 (crC b m).f && leq (veq 8) [.string hay, .string b] (crC b m).vs && Nat.ble (crC b m).nxs nx && Nat.ble (nx + ((crC b m).nxs' - (crC b m).nxs)) (2 ^ HD) && (crC b m).ids.all (fun i => objEq ((crC b m).Hs.at i) (H.at i))) = true := by
        have e1 : (crC b m).ids = [2] := rfl
        have e2 : (crC b m).Hs = hsM m := rfl
        simp only [Bool.and_eq_true, e1, e2, List.all_cons, List.all_nil, hsM_at, ho, objEq_int, and_true]
        exact ⟨⟨⟨rfl, h2⟩, h4⟩, h5⟩
      unfold crK
      rw [c1]
      rfl
    · cases h3

theorem hsA_at {i : Nat} {o : AObj} (hi : i < 2 ^ HD) (h : hsA.at i = some o) : i = 0 ∧ hsA.at 0 = some o := by
  have h' := h
  unfold hsA at h
  rw [AHeap.at_put _ _ _ _ (by decide) hi] at h
  split at h
  · rename_i e
    subst e
    exact ⟨rfl, h'⟩
  · cases h
noncomputable def asciiL : List Value := match hsA.at 0 with
  | some (.cells _ cs _ _) => cs
  | _ => []
theorem hsA_zero : hsA.at 0 = some (.cells 346 asciiL false true) := by kernel_rfl
theorem ascii_closed : ∀ v ∈ asciiL, Closedv v := by
  have h : asciiL.all (closedB 6) = true := by kernel_rfl
  exact fun v hv => closedB_ok 6 v (List.all_eq_true.1 h v hv)
theorem crA_ok {c : CR} (h1 : c.Hs = hsA) (h2 : c.ids = [0]) (h3 : c.nxs = 7) (h4 : c.vs.all (closedB 6) = true) : CROk Tryz.prog env c := by
  refine ⟨fun v hv => closedB_ok 6 v (List.all_eq_true.1 h4 v hv), fun i o hi ho => ?_, by rw [h3]; decide +kernel⟩
  rw [h1] at ho
  obtain ⟨rfl, h0⟩ := hsA_at hi ho
  rw [hsA_zero] at h0
  cases h0
  exact ⟨by simp [h2], by omega, 346, _, false, true, rfl, ascii_closed⟩

theorem K1_ok : ConOk Tryz.prog env (Wn Tryz.prog Post w0) K1 :=
  conOk_or (conOk_cr env_ok conOk_none (crA_ok rfl rfl rfl (by kernel_rfl)) crF1_run (fn := Tryz.f173) (by kernel_rfl) (by kernel_rfl))
    (conOk_or (conOk_cr env_ok conOk_none (crA_ok rfl rfl rfl (by kernel_rfl)) crF2_run (fn := Tryz.f173) (by kernel_rfl) (by kernel_rfl)) idx_ok)
noncomputable def K3 : Con := orK (crK crL) (orK (ctnK needA) (orK (ctnK needB) (orK (decK 14) (orK (comK 64 92) K1))))
theorem K3_ok : ConOk Tryz.prog env (Wn Tryz.prog Post w0) K3 :=
  conOk_or (conOk_cr env_ok K1_ok (crA_ok rfl rfl rfl (by kernel_rfl)) crL_run (fn := Tryz.f45) (by kernel_rfl) (by kernel_rfl))
    (conOk_or (conOk_ctn runA) (conOk_or (conOk_ctn runB) (conOk_or (conOk_dec dec14 env_ok) (conOk_or (conOk_com com64 env_ok) K1_ok))))
end
end Go.Proofs.Evz
