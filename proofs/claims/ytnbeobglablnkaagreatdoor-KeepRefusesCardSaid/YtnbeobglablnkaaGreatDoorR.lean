/-
  ENGINE: contracts of replay.New at the constant text, and of awake.
-/
import Derived.Test.YtnbeobglablnkaaGreatDoorNa
namespace Go.Proofs.Evz
open Go Go.Conc Go.Proofs
set_option maxRecDepth 100000
noncomputable def hW (ml : Int) : AHeap := AHeap.put hsA 2 (some (.cells 3 [.int .i64 ml] false true))
noncomputable def crR (ml : Int) : CR where
  f := 5
  vs := [.string ⟨⟨[108, 101, 116, 32, 105, 32, 61, 32, 48, 59, 32, 119, 104, 105, 108, 101, 32, 40, 116, 114, 117, 101, 41, 32, 123, 32, 105, 32, 61, 32, 105, 32, 43, 32, 49, 59, 32, 125]⟩⟩, .string ⟨⟨[]⟩⟩]
  Hs := hW ml
  ids := [0, 2]
  nxs := 7
  nxs' := 1242
  v := .tuple ⟨[.pointer (some ⟨1241, 0, none⟩), .int .i64 (.ofNat 0), .int .i64 (.ofNat 0)]⟩
  L := [(1241, 57, [.pointer (some ⟨1240, 0, none⟩), .slice none 0 0], false),
    (1240, 92, [.pointer (some ⟨1221, 0, none⟩), .slice none 0 0, .slice none 0 0], false),
    (1221, 133, [.pointer (some ⟨1220, 0, none⟩), .int .i64 (.ofNat 0), .int .i64 (.ofNat 0), .int .i64 (.ofNat 0), .slice none 0 0, .slice (some ⟨1239, 0, none⟩) 1 1, .int .i64 (.ofNat 0), .slice none 0 0, .slice none 0 0, .int .i64 (.ofNat 0), .slice none 0 0, .slice none 0 0, .slice none 0 0, .slice (some ⟨1217, 0, none⟩) 1 1], false),
    (1220, 193, [.pointer (some ⟨1219, 0, none⟩)], false),
    (1219, 245, [.pointer (some ⟨1218, 0, none⟩), .slice (some ⟨1231, 0, none⟩) 1 1, .int .i64 (.ofNat 1), .bool false], false),
    (1218, 242, [.int .i64 (.ofNat 1)], false),
    (1231, 301, [.pointer (some ⟨1229, 0, none⟩)], true),
    (1229, 303, [.slice (some ⟨1237, 0, none⟩) 1 1, .int .i64 (.ofNat 1)], false),
    (1237, 201, [.int .i64 (.ofNat 4), .int .i64 (.ofNat 0), .int .i64 (.ofNat 0), .slice none 0 0, .slice (some ⟨1235, 0, none⟩) 1 1], true),
    (1235, 135, [.int .i64 (.ofNat 7), .int .i64 (.ofNat 0), .string ⟨⟨[]⟩⟩], true),
    (1239, 204, [.int .i64 (.ofNat 0), .int .i64 (.ofNat 0), .int .i64 (.ofNat 1), .int .i64 (.ofNat 0), .int .i64 (.ofNat 0), .string ⟨⟨[]⟩⟩, .slice none 0 0, .slice none 0 0, .int .i64 (.ofNat 0)], true),
    (1217, 129, [.string ⟨⟨[]⟩⟩, .int .i64 (.ofNat 0), .int .i64 (.ofNat 1), .bool false, .slice (some ⟨1215, 0, none⟩) 12 12], true),
    (1215, 211, [.int .i64 (.ofNat 4), .int .i64 (.ofNat 0), .int .i64 (.ofNat 0), .string ⟨⟨[]⟩⟩, .int .i64 (.ofNat 9), .int .i64 (.ofNat 0), .int .i64 (.ofNat 0), .string ⟨⟨[]⟩⟩, .int .i64 (.ofNat 3), .int .i64 (.ofNat 1), .int .i64 (.ofNat 0), .string ⟨⟨[]⟩⟩, .int .i64 (.ofNat 24), .int .i64 (.ofNat 10), .int .i64 (.ofNat 0), .string ⟨⟨[]⟩⟩, .int .i64 (.ofNat 7), .int .i64 (.ofNat 0), .int .i64 (.ofNat 0), .string ⟨⟨[]⟩⟩, .int .i64 (.ofNat 4), .int .i64 (.ofNat 1), .int .i64 (.ofNat 0), .string ⟨⟨[]⟩⟩, .int .i64 (.ofNat 22), .int .i64 (.ofNat 0), .int .i64 (.ofNat 0), .string ⟨⟨[43]⟩⟩, .int .i64 (.ofNat 8), .int .i64 (.ofNat 0), .int .i64 (.ofNat 0), .string ⟨⟨[]⟩⟩, .int .i64 (.ofNat 11), .int .i64 (.ofNat 0), .int .i64 (.ofNat 0), .string ⟨⟨[]⟩⟩, .int .i64 (.ofNat 23), .int .i64 (.ofNat 2), .int .i64 (.ofNat 0), .string ⟨⟨[]⟩⟩, .int .i64 (.ofNat 1), .int .i64 (.ofNat 0), .int .i64 (.ofNat 0), .string ⟨⟨[]⟩⟩, .int .i64 (.ofNat 31), .int .i64 (.ofNat 0), .int .i64 (.ofNat 0), .string ⟨⟨[]⟩⟩], true)]
noncomputable def crW : CR where
  f := 13
  vs := []
  Hs := hsA
  ids := [0]
  nxs := 7
  nxs' := 155
  v := .bool true
  L := []

/-- As crB, but what object 2 holds is handed out. -/
noncomputable def crB0 (c : CR) : Option Res → Bool × Option AObj
  | some (.ret v H nx _) => (veq 8 v c.v && Nat.beq nx c.nxs' && objEq (H.at 0) (c.Hs.at 0) && c.L.all (fun p => Nat.ble c.nxs p.1 && Nat.blt p.1 c.nxs' && objEq (H.at p.1) (some (.cells p.2.1 p.2.2.1 p.2.2.2 false))), H.at 2)
  | _ => (false, none)
theorem hW_two (ml : Int) : (hW ml).at 2 = some (.cells 3 [.int .i64 ml] false true) := by
  unfold hW
  rw [AHeap.at_put _ _ _ _ (by decide) (by decide), if_pos rfl]
theorem hW_zero (ml : Int) : (hW ml).at 0 = some (.cells 346 asciiL false true) := by
  unfold hW
  rw [AHeap.at_put _ _ _ _ (by decide) (by decide), if_neg (by decide)]
  exact hsA_zero
theorem hW_at {ml : Int} {i : Nat} {o : AObj} (hi : i < 2 ^ HD) (h : (hW ml).at i = some o) : (i = 0 ∧ o = .cells 346 asciiL false true) ∨ (i = 2 ∧ o = .cells 3 [.int .i64 ml] false true) := by
  unfold hW at h
  rw [AHeap.at_put _ _ _ _ (by decide) hi] at h
  split at h
  · rename_i e
    exact .inr ⟨e.symm, (Option.some.inj h).symm⟩
  · obtain ⟨e, h0⟩ := hsA_at hi h
    rw [hsA_zero] at h0
    exact .inl ⟨e, (Option.some.inj h0).symm⟩
theorem crB_of_0 {c : CR} {ml : Int} {x : Option Res} (hids : c.ids = [0, 2]) (hH : c.Hs = hW ml) (h : crB0 c x = (true, some (.cells 3 [.int .i64 ml] false true))) : crB c x = true := by
  unfold crB0 at h
  split at h
  · rename_i v H nx rc
    simp only [Prod.mk.injEq, Bool.and_eq_true] at h
    obtain ⟨⟨⟨⟨h1, h2⟩, h3⟩, h4⟩, h5⟩ := h
    simp only [crB, hids, List.all_cons, List.all_nil, h1, h2, h4, h5, hH, hW_two, objEq_int, Bool.and_true, Bool.true_and]
    rw [hH] at h3
    simp [h3]
  · simp at h
theorem crR_run (ml : Int) : crB0 (crR ml) (ev env K4 3000 (.call (crR ml).f (crR ml).vs) ⟨.nil, 0, (crR ml).Hs, (crR ml).nxs, [], .no⟩) = (true, some (.cells 3 [.int .i64 ml] false true)) := by kernel_rfl
end Go.Proofs.Evz
