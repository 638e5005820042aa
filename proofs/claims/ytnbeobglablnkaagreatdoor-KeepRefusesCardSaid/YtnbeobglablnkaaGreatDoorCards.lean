/-
  DERIVED. GIVEN WITH THE SEED: THE CARDS: each row of YtnbeobglablnkaaGreatDoorRows.lean that lists a variable, with what it lists TIED to the program's text (the seventh form; the later family's looks); each row that meets fmt, with fmt's text TOLD by the authors' own Lean function (tested against real Go, not proved from fmt's source: count such statements apart). THE CARD IS WHAT COUNTS. Prove the row's statement (the work); the ties are given (YtnbeobglablnkaaGreatDoorTie.lean); close each card by the builder's one call (the guide's Derived/Test/ToyasCard.lean, 'card_holds'). Laid BY PROGRAM, IN A SANDBOX (cutbox-door.mjs). By AI agents, Wed Nov 11 2026. No macro, syntax, notation, axiom, sorry.
-/
import Derived.Test.YtnbeobglablnkaaGreatDoorRows
import GoSem.ClaimSeven
namespace Go.Proofs.YtnbeobglablnkaaGreatDoor
namespace Rows

/-- THE TIED CARD OF 'boomeranglaw23.KeepRefuses'. -/
def keepRefusesCard : Claim7 := { stood := { row := keepRefusesRow, standIns := [], harness := (true, "b75d3f03296455b6548cb3bcf9dc9ef99dfadb49b231ed84da504220eb15401c"), looks := true }, kinds := [], alts := [], goes := true, laidByText := true, laidKinds := [.data, .data, .data, .listed, .data], laidTests := true, laidLooks := .later }
def KeepRefusesCardSaid : Prop := Claim7.holds Tryz.pinned (.plain (OpenSpec.ofChange keepRefusesSpec)) keepRefusesCard
end Rows
end Go.Proofs.YtnbeobglablnkaaGreatDoor
