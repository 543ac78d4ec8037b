/-
  DERIVED. GIVEN WITH THE SEED: THE CARDS: each row of YthblobahelfefaaGreatDoorRows.lean that lists a variable, with what it lists TIED to the program's text (the seventh form; the later family's looks); each row that meets fmt, with fmt's text TOLD by the authors' own Lean function (tested against real Go, not proved from fmt's source: count such statements apart). THE CARD IS WHAT COUNTS. Prove the row's statement (the work); the ties are given (YthblobahelfefaaGreatDoorTie.lean); close each card by the builder's one call (the guide's Derived/Test/ToyasCard.lean, 'card_holds'). Laid BY PROGRAM, IN A SANDBOX (cutbox-door.mjs). By AI agents, Wed Nov 11 2026. No macro, syntax, notation, axiom, sorry.
-/
import Derived.Test.YthblobahelfefaaGreatDoorRows
import GoSem.ClaimSeven
namespace Go.Proofs.YthblobahelfefaaGreatDoor
namespace Rows

/-- THE TIED CARD OF 'ctrietop.Clears'. -/
def clearsCard : Claim7 := { stood := { row := clearsRow, standIns := [], harness := (true, "9855863e6b4c00eccbcaceabfe8e282cd476f7b80804cf0575c1f3c68c5fc28b"), looks := true }, kinds := [], alts := [], laidByText := true, laidKinds := [.data, .data, .data], laidTests := true, laidLooks := .later }
def ClearsCardSaid : Prop := Claim7.holds Tryz.pinned (.plain (OpenSpec.ofChange clearsSpec)) clearsCard

/-- THE SECOND FORM's CARD OF 'ctrietop.Clears'. -/
def clearsUptoCard : Claim7 := { stood := { row := clearsUptoRow, standIns := [], harness := (true, "9855863e6b4c00eccbcaceabfe8e282cd476f7b80804cf0575c1f3c68c5fc28b"), looks := true }, kinds := [], alts := [], laidByText := true, laidKinds := [.data, .data, .data], laidTests := true, laidLooks := .later }
def ClearsUptoCardSaid : Prop := Claim7.holds Tryz.pinned (.plain (OpenSpec.upto clearsSpec)) clearsUptoCard
end Rows
end Go.Proofs.YthblobahelfefaaGreatDoor
