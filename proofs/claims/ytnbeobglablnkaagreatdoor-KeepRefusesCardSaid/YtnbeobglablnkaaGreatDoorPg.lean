/-
  The given row of KeepRefuses: its closed facts, all.
-/
import Derived.Test.YtnbeobglablnkaaGreatDoorPa
import Derived.Test.YtnbeobglablnkaaGreatDoorPb
import Derived.Test.YtnbeobglablnkaaGreatDoorPc
import Derived.Test.YtnbeobglablnkaaGreatDoorPd
import Derived.Test.YtnbeobglablnkaaGreatDoorPe
import Derived.Test.YtnbeobglablnkaaGreatDoorPf
namespace Go.Proofs.YtnbeobglablnkaaGreatDoor
open Go.Conc Go.RowKit
set_option maxRecDepth 100000
theorem fact3 : Tryz.f3.isWrapper Tryz.prog Rows.keepRefusesRow.wrapper Rows.keepRefusesRow.mainSum := by
  unfold Func.isWrapper; first | (rw [if_pos (by decide +kernel)]; kernel_rfl) | (rw [if_neg (by decide +kernel)]; exact ⟨rfl, rfl⟩)
theorem fact4 : Tryz.f3.isInstance Tryz.prog Rows.keepRefusesRow.origin Rows.keepRefusesRow.targs := of_decide_eq_true (by kernel_rfl)
theorem fact2 : joinedFacts Tryz.prog 3 Tryz.f3 Rows.keepRefusesSpec Rows.keepRefusesRow = true := by
  simp only [joinedFacts, Bool.and_eq_true]
  refine ⟨⟨⟨⟨⟨⟨⟨⟨⟨⟨⟨⟨⟨⟨⟨⟨⟨⟨⟨⟨⟨⟨⟨⟨⟨⟨⟨⟨⟨⟨⟨?_, fa⟩, fb⟩, ?_⟩, ?_⟩, ?_⟩, ?_⟩, ?_⟩, ?_⟩, fc⟩, fd⟩, fe⟩, ff⟩, ?_⟩, ?_⟩, ?_⟩, ?_⟩, ?_⟩, ?_⟩, ?_⟩, ?_⟩, ?_⟩, fg⟩, ?_⟩, fh⟩, fi⟩, ?_⟩, ?_⟩, ?_⟩, ?_⟩, ?_⟩, ?_⟩
  all_goals as_aux_lemma => kernel_rfl
end Go.Proofs.YtnbeobglablnkaaGreatDoor
