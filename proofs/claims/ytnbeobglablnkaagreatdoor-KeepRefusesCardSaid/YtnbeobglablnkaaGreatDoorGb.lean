/-
  ENGINE: the run's third number is the byte that came in.
-/
import Derived.Test.YtnbeobglablnkaaGreatDoorGa
namespace Go.Proofs.Evz
open Go Go.Conc Go.Proofs
set_option maxRecDepth 100000
theorem tm2_nn (c m n : Nat) (ml : Int) : (evC env K5 3000 ps3 (S3 (.negSucc c) (.negSucc m) ml n)).map (fun S => (tget S.tm 2, S.nt)) = some (.int .u8 (.ofNat n), 147) := by kernel_rfl
theorem tm2_np (c m n : Nat) (ml : Int) : (evC env K5 3000 ps3 (S3 (.negSucc c) (.ofNat m) ml n)).map (fun S => (tget S.tm 2, S.nt)) = some (.int .u8 (.ofNat n), 147) := by kernel_rfl
theorem tm2_pn (c m n : Nat) (ml : Int) : (evC env K5 3000 ps3 (S3 (.ofNat c) (.negSucc m) ml n)).map (fun S => (tget S.tm 2, S.nt)) = some (.int .u8 (.ofNat n), 147) := by kernel_rfl
theorem tm2_pp (c m n : Nat) (ml : Int) : (evC env K5 3000 ps3 (S3 (.ofNat c) (.ofNat m) ml n)).map (fun S => (tget S.tm 2, S.nt)) = some (.int .u8 (.ofNat n), 147) := by kernel_rfl
theorem tm2_ok (c m ml : Int) (n : Nat) : (evC env K5 3000 ps3 (S3 c m ml n)).map (fun S => (tget S.tm 2, S.nt)) = some (.int .u8 (.ofNat n), 147) := by
  cases c with
  | ofNat c => cases m with
    | ofNat m => exact tm2_pp c m n ml
    | negSucc m => exact tm2_pn c m n ml
  | negSucc c => cases m with
    | ofNat m => exact tm2_np c m n ml
    | negSucc m => exact tm2_nn c m n ml

end Go.Proofs.Evz
