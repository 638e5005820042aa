/-
  ENGINE: the statement's own function: what is run.
-/
import Derived.Test.YtnbeobglablnkaaGreatDoorQ
import Derived.Test.YtnbeobglablnkaaGreatDoorEc
namespace Go.Proofs.Evz
open Go Go.Conc Go.Proofs
set_option maxRecDepth 100000
noncomputable def B3 : Code := Tryz.f3.body.getD .skip
noncomputable def r3 : Nat → Code
  | 0 => B3
  | n + 1 => cR (r3 n)
noncomputable def ps3 : List Code := [cL (r3 0), cL (r3 1), cL (r3 2), cL (r3 3), cL (r3 4), cL (r3 5), cL (r3 6), cL (r3 7), cL (r3 8), cL (r3 9), cL (r3 10), cL (r3 11), cL (r3 12), cL (r3 13), cL (r3 14)]
noncomputable def o16 : Array Oper := rOps (cL (r3 15))
noncomputable def rest3 : Code := cR (r3 15)
noncomputable def S3 (c m ml : Int) (n : Nat) : St := ⟨argTm [.int .i64 c, .int .i64 m, .int .u8 (.ofNat n)] 0 .nil, 147, hW ml, 7, [], .no⟩
/-- The first operations of region 16, by hand: the number may be any byte. -/
noncomputable def hand16 (n : Nat) (S : St) : St := ⟨tput (tput (tput (tput S.tm 101 (tget S.tm 11)) 102 (tget S.tm 2)) 103 (.int .i64 (.ofNat n))) 104 (.int .i64 (.ofNat (n + 4))), S.nt, S.H, S.nx, S.df, S.rc⟩
noncomputable def run3 (c m ml : Int) (n : Nat) : Option St :=
  match evC env K5 3000 ps3 (S3 c m ml n) with
  | some S1 => match ev env K5 3000 (.ops o16 4 (o16.toList.drop 4)) (hand16 n S1) with
    | some (.out .normal S2) => match ev env K5 3000 (.code rest3) S2 with
      | some (.out .ret S4) => some S4
      | _ => none
    | _ => none
  | _ => none
noncomputable def okB : Option St → Bool
  | some S => match tget S.tm 6, S.df with
    | .bool true, [] => Nat.beq S.nt 147
    | _, _ => false
  | none => false
end Go.Proofs.Evz
