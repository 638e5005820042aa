/-
  The given row of KeepRefuses: closed facts (ff).
-/
import Derived.Test.YtnbeobglablnkaaGreatDoorRows
import Derived.Conc.HoldsTime
namespace Go.Proofs.YtnbeobglablnkaaGreatDoor
open Go.Conc Go.RowKit
set_option maxRecDepth 100000
theorem ff : (Rows.keepRefusesRow.named == Tryz.prog.varsNamed 3) = true := by kernel_rfl
end Go.Proofs.YtnbeobglablnkaaGreatDoor
