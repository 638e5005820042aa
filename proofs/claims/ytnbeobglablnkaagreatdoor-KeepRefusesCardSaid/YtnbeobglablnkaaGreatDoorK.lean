/-
  boomeranglaw23.KeepRefuses: whatever the three numbers, on every schedule the call returns true, without a data race; at its return every other goroutine has ended or only leaves. What the library's table of spaces holds is tied to the program's text (the tied card).
-/
import Derived.Test.YtnbeobglablnkaaGreatDoorJ
import Derived.Test.YtnbeobglablnkaaGreatDoorPg
namespace Go.Proofs.YtnbeobglablnkaaGreatDoor
open Go.Conc Go.RowKit Go.ChangeShapes Go.WideShapes Go.ChangeAt Go.Proofs.Evz
set_option maxRecDepth 100000
theorem said : Rows.KeepRefusesSaid :=
  OpenClaim.holds_of_wide_leaving_time 3 Tryz.f3 rfl rfl rfl rfl rfl rfl rfl ⟨rfl, rfl, rfl, rfl, rfl⟩ rfl rfl rfl rfl rfl fo Tryz.func3 fact2 fact4 fact3
    (fun os started H enc _ F => lifted os started H enc F)
theorem card_wants : ([3, 5].all fun u => !Tryz.prog.wantsStandIn u) = true := by kernel_rfl
theorem card_goes : true = Rows.keepRefusesRow.goesBy Tryz.pinned.checked.prog := by kernel_rfl
theorem card_main : Tryz.pinned.checked.prog.mainIs = some (true, "b75d3f03296455b6548cb3bcf9dc9ef99dfadb49b231ed84da504220eb15401c".toList) := by kernel_rfl
theorem card_looks : true = Tryz.pinned.checked.prog.looks [] := by kernel_rfl
theorem card_wf : Rows.keepRefusesRow.wfByText (OpenSpec.ofChange Rows.keepRefusesSpec) = true := by kernel_rfl
theorem card_one : Claim7.holdsOne Tryz.pinned (.plain (OpenSpec.ofChange Rows.keepRefusesSpec)) { Rows.keepRefusesCard with goes := false } :=
  Claim7.tied_new_at .later [.data, .data, .data, .listed, .data] true (Claim7.new_of_sixth said (true, "b75d3f03296455b6548cb3bcf9dc9ef99dfadb49b231ed84da504220eb15401c") true rfl ⟨rfl, rfl⟩ card_main (by simp [Claim7.isSixth]) (fun f fn hf hfn => by
    obtain rfl : f = 3 := Option.some.inj (fo.symm.trans hf) |>.symm
    obtain rfl : fn = Tryz.f3 := (Option.some.inj (Tryz.func3.symm.trans hfn)).symm
    exact ⟨card_looks, fun j t ht => by
      rw [Tryz.params3] at ht
      have hm : t ∈ [3, 5] := by
        have : t ∈ [3, 3, 5] := by simpa using Array.mem_of_getElem? ht
        simpa using this
      exact (show Tryz.prog.wantsStandIn t = false by simpa using List.all_eq_true.1 card_wants t hm)⟩)) card_wf
/-- The tied card. -/
theorem keepRefuses_card : Rows.KeepRefusesCardSaid :=
  ⟨(Claim7.holdsOne_goes _ _ _ true).2 card_one, (fun _ h => by cases h), keepRefuses_row_tie, (fun h => by cases h), card_goes⟩
#print axioms keepRefuses_card
end Go.Proofs.YtnbeobglablnkaaGreatDoor
