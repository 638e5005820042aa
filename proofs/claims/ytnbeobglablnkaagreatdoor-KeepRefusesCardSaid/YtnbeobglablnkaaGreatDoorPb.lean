/-
  The given row of KeepRefuses: closed facts (fb, fg, fh, fi, fo).
-/
import Derived.Test.YtnbeobglablnkaaGreatDoorRows
import Derived.Conc.HoldsTime
namespace Go.Proofs.YtnbeobglablnkaaGreatDoor
open Go.Conc Go.RowKit
set_option maxRecDepth 100000
theorem fb : mapsRowed Tryz.prog = true := by kernel_rfl
theorem fg : (Rows.keepRefusesRow.plainKeys == Tryz.prog.plainKeys) = true := by kernel_rfl
theorem fh : Tryz.prog.stopsHeard = true := by kernel_rfl
theorem fi : Tryz.prog.mayEnter = true := by kernel_rfl
theorem fo : Tryz.prog.funcNamed "boomerang/boomeranglaw23.KeepRefuses" = some 3 := by kernel_rfl
end Go.Proofs.YtnbeobglablnkaaGreatDoor
