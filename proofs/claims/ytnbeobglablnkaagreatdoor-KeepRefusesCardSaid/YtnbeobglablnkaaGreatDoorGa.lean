/-
  ENGINE: the run.
-/
import Derived.Test.YtnbeobglablnkaaGreatDoorG
namespace Go.Proofs.Evz
open Go Go.Conc Go.Proofs
set_option maxRecDepth 100000
theorem run3_nn (c m n : Nat) (ml : Int) : okB (run3 (.negSucc c) (.negSucc m) ml n) = true := by kernel_rfl
theorem run3_np (c m n : Nat) (ml : Int) : okB (run3 (.negSucc c) (.ofNat m) ml n) = true := by kernel_rfl
theorem run3_pn (c m n : Nat) (ml : Int) : okB (run3 (.ofNat c) (.negSucc m) ml n) = true := by kernel_rfl
theorem run3_pp (c m n : Nat) (ml : Int) : okB (run3 (.ofNat c) (.ofNat m) ml n) = true := by kernel_rfl
theorem run3_ok (c m ml : Int) (n : Nat) : okB (run3 c m ml n) = true := by
  cases c with
  | ofNat c => cases m with
    | ofNat m => exact run3_pp c m n ml
    | negSucc m => exact run3_pn c m n ml
  | negSucc c => cases m with
    | ofNat m => exact run3_np c m n ml
    | negSucc m => exact run3_nn c m n ml
end Go.Proofs.Evz
