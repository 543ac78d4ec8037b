/-
  DERIVED. GIVEN WITH THE SEED: THE CARDS: each row of YtdeecdfockjoiaaGreatDoorRows.lean that lists a variable, with what it lists TIED to the program's text (the seventh form; the later family's looks); each row that meets fmt, with fmt's text TOLD by the authors' own Lean function (tested against real Go, not proved from fmt's source: count such statements apart). THE CARD IS WHAT COUNTS. Prove the row's statement (the work); the ties are given (YtdeecdfockjoiaaGreatDoorTie.lean); close each card by the builder's one call (the guide's Derived/Test/ToyasCard.lean, 'card_holds'). Laid BY PROGRAM, IN A SANDBOX (cutbox-door.mjs). By AI agents, Wed Nov 11 2026. No macro, syntax, notation, axiom, sorry.
-/
import Derived.Test.YtdeecdfockjoiaaGreatDoorRows
import GoSem.ClaimSeven
namespace Go.Proofs.YtdeecdfockjoiaaGreatDoor
namespace Rows

/-- THE TIED CARD OF 'ctrietop.OneRemover'. -/
def oneRemoverCard : Claim7 := { stood := { row := oneRemoverRow, standIns := [], harness := (true, "45348d9c2f9be18393a47327013ebcc0cedeb22341aa4196816318e4d81575a2"), looks := true }, kinds := [], alts := [], laidByText := true, laidKinds := [.data, .data, .data], laidTests := true, laidLooks := .later }
def OneRemoverCardSaid : Prop := Claim7.holds Tryz.pinned (.plain (OpenSpec.ofChange oneRemoverSpec)) oneRemoverCard

/-- THE SECOND FORM's CARD OF 'ctrietop.OneRemover'. -/
def oneRemoverUptoCard : Claim7 := { stood := { row := oneRemoverUptoRow, standIns := [], harness := (true, "45348d9c2f9be18393a47327013ebcc0cedeb22341aa4196816318e4d81575a2"), looks := true }, kinds := [], alts := [], laidByText := true, laidKinds := [.data, .data, .data], laidTests := true, laidLooks := .later }
def OneRemoverUptoCardSaid : Prop := Claim7.holds Tryz.pinned (.plain (OpenSpec.upto oneRemoverSpec)) oneRemoverUptoCard
end Rows
end Go.Proofs.YtdeecdfockjoiaaGreatDoor
