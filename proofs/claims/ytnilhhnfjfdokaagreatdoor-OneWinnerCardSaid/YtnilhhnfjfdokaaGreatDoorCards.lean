/-
  DERIVED. GIVEN WITH THE SEED: THE CARDS: each row of YtnilhhnfjfdokaaGreatDoorRows.lean that lists a variable, with what it lists TIED to the program's text (the seventh form; the later family's looks); each row that meets fmt, with fmt's text TOLD by the authors' own Lean function (tested against real Go, not proved from fmt's source: count such statements apart). THE CARD IS WHAT COUNTS. Prove the row's statement (the work); the ties are given (YtnilhhnfjfdokaaGreatDoorTie.lean); close each card by the builder's one call (the guide's Derived/Test/ToyasCard.lean, 'card_holds'). Laid BY PROGRAM, IN A SANDBOX (cutbox-door.mjs). By AI agents, Wed Nov 11 2026. No macro, syntax, notation, axiom, sorry.
-/
import Derived.Test.YtnilhhnfjfdokaaGreatDoorRows
import GoSem.ClaimSeven
namespace Go.Proofs.YtnilhhnfjfdokaaGreatDoor
namespace Rows

/-- THE TIED CARD OF 'ctrietop.OneWinner'. -/
def oneWinnerCard : Claim7 := { stood := { row := oneWinnerRow, standIns := [], harness := (true, "2d5d6ac2f0bea6764295469ec87d19006e6926d6090eaa53365fa5dcc72d980a"), looks := true }, kinds := [], alts := [], laidByText := true, laidKinds := [.data, .data, .data], laidTests := true, laidLooks := .later }
def OneWinnerCardSaid : Prop := Claim7.holds Tryz.pinned (.plain (OpenSpec.ofChange oneWinnerSpec)) oneWinnerCard

/-- THE SECOND FORM's CARD OF 'ctrietop.OneWinner'. -/
def oneWinnerUptoCard : Claim7 := { stood := { row := oneWinnerUptoRow, standIns := [], harness := (true, "2d5d6ac2f0bea6764295469ec87d19006e6926d6090eaa53365fa5dcc72d980a"), looks := true }, kinds := [], alts := [], laidByText := true, laidKinds := [.data, .data, .data], laidTests := true, laidLooks := .later }
def OneWinnerUptoCardSaid : Prop := Claim7.holds Tryz.pinned (.plain (OpenSpec.upto oneWinnerSpec)) oneWinnerUptoCard
end Rows
end Go.Proofs.YtnilhhnfjfdokaaGreatDoor
