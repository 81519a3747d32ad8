/-
  DERIVED. GIVEN WITH THE SEED: THE CARDS: each row of YtheoifhidoofbaaGreatDoorRows.lean that lists a variable, with what it lists TIED to the program's text (the seventh form; the later family's looks); each row that meets fmt, with fmt's text TOLD by the authors' own Lean function (tested against real Go, not proved from fmt's source: count such statements apart). THE CARD IS WHAT COUNTS. Prove the row's statement (the work); the ties are given (YtheoifhidoofbaaGreatDoorTie.lean); close each card by the builder's one call (the guide's Derived/Test/ToyasCard.lean, 'card_holds'). Laid BY PROGRAM, IN A SANDBOX (cutbox-door.mjs). By AI agents, Wed Nov 11 2026. No macro, syntax, notation, axiom, sorry.
-/
import Derived.Test.YtheoifhidoofbaaGreatDoorRows
import GoSem.ClaimSeven
namespace Go.Proofs.YtheoifhidoofbaaGreatDoor
namespace Rows

/-- THE TIED CARD OF 'crucibletop.WholeAgain'. -/
def wholeAgainCard : Claim7 := { stood := { row := wholeAgainRow, standIns := [], harness := (true, "f5de587050f7f365e22c4d8c28004c7a79c4307401aed7bd7457a0c3086e9894"), looks := false }, kinds := [], alts := [], laidByText := true, laidKinds := [.data], laidTests := true, laidLooks := .later }
def WholeAgainCardSaid : Prop := Claim7.holds Tryz.pinned (.plain (OpenSpec.ofChange wholeAgainSpec)) wholeAgainCard

/-- THE SECOND FORM's CARD OF 'crucibletop.WholeAgain'. -/
def wholeAgainUptoCard : Claim7 := { stood := { row := wholeAgainUptoRow, standIns := [], harness := (true, "f5de587050f7f365e22c4d8c28004c7a79c4307401aed7bd7457a0c3086e9894"), looks := false }, kinds := [], alts := [], laidByText := true, laidKinds := [.data], laidTests := true, laidLooks := .later }
def WholeAgainUptoCardSaid : Prop := Claim7.holds Tryz.pinned (.plain (OpenSpec.upto wholeAgainSpec)) wholeAgainUptoCard
end Rows
end Go.Proofs.YtheoifhidoofbaaGreatDoor
