/-
  The given row of KeepRefuses: closed facts (fa).
-/
import Derived.Test.YtnbeobglablnkaaGreatDoorRows
import Derived.Conc.HoldsTime
namespace Go.Proofs.YtnbeobglablnkaaGreatDoor
open Go.Conc Go.RowKit
set_option maxRecDepth 100000
theorem fa : laidOutB Tryz.prog = true := by kernel_rfl
end Go.Proofs.YtnbeobglablnkaaGreatDoor
