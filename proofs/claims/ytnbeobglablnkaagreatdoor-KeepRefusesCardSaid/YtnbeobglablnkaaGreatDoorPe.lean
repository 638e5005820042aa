/-
  The given row of KeepRefuses: closed facts (fe).
-/
import Derived.Test.YtnbeobglablnkaaGreatDoorRows
import Derived.Conc.HoldsTime
namespace Go.Proofs.YtnbeobglablnkaaGreatDoor
open Go.Conc Go.RowKit
set_option maxRecDepth 100000
theorem fe : (Rows.keepRefusesRow.recurses == Tryz.prog.recurses 3) = true := by kernel_rfl
end Go.Proofs.YtnbeobglablnkaaGreatDoor
