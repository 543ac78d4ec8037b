/-
  DERIVED. GIVEN WITH THE SEED: THE CARDS: each row of YtadnboagdhcedaaGreatDoorRows.lean that lists a variable, with what it lists TIED to the program's text (the seventh form; the later family's looks); each row that meets fmt, with fmt's text TOLD by the authors' own Lean function (tested against real Go, not proved from fmt's source: count such statements apart). THE CARD IS WHAT COUNTS. Prove the row's statement (the work); the ties are given (YtadnboagdhcedaaGreatDoorTie.lean); close each card by the builder's one call (the guide's Derived/Test/ToyasCard.lean, 'card_holds'). Laid BY PROGRAM, IN A SANDBOX (cutbox-door.mjs). By AI agents, Wed Nov 11 2026. No macro, syntax, notation, axiom, sorry.
-/
import Derived.Test.YtadnboagdhcedaaGreatDoorRows
import GoSem.ClaimSeven
namespace Go.Proofs.YtadnboagdhcedaaGreatDoor
namespace Rows

/-- THE TIED CARD OF 'ctrielaw10.ShapeExact'. -/
def shapeExactCard : Claim7 := { stood := { row := shapeExactRow, standIns := [], harness := (true, "5a0b336fc2c5bed96289c90913d0a1c59496e7bd4f743cb2279f1d6a1855135a"), looks := false }, kinds := [], alts := [], laidByText := true, laidKinds := [.data], laidTests := true, laidLooks := .later }
def ShapeExactCardSaid : Prop := Claim7.holds Tryz.pinned (.plain (OpenSpec.ofChange shapeExactSpec)) shapeExactCard

/-- THE TIED CARD OF 'ctrielaw10.ShapeReached'. -/
def shapeReachedCard : Claim7 := { stood := { row := shapeReachedRow, standIns := [], harness := (true, "5a0b336fc2c5bed96289c90913d0a1c59496e7bd4f743cb2279f1d6a1855135a"), looks := false }, kinds := [], alts := [], laidByText := true, laidKinds := [.data], laidTests := true, laidLooks := .later }
def ShapeReachedCardSaid : Prop := Claim7.holds Tryz.pinned (.plain (OpenSpec.ofChange shapeReachedSpec)) shapeReachedCard

/-- THE TIED CARD OF 'ctrielaw10.ShapeDepth'. -/
def shapeDepthCard : Claim7 := { stood := { row := shapeDepthRow, standIns := [], harness := (true, "5a0b336fc2c5bed96289c90913d0a1c59496e7bd4f743cb2279f1d6a1855135a"), looks := false }, kinds := [], alts := [], laidByText := true, laidKinds := [.data], laidTests := true, laidLooks := .later }
def ShapeDepthCardSaid : Prop := Claim7.holds Tryz.pinned (.plain (OpenSpec.ofChange shapeDepthSpec)) shapeDepthCard

/-- THE TIED CARD OF 'ctrielaw10.ShapeLast'. -/
def shapeLastCard : Claim7 := { stood := { row := shapeLastRow, standIns := [], harness := (true, "5a0b336fc2c5bed96289c90913d0a1c59496e7bd4f743cb2279f1d6a1855135a"), looks := false }, kinds := [], alts := [], laidByText := true, laidKinds := [.data], laidTests := true, laidLooks := .later }
def ShapeLastCardSaid : Prop := Claim7.holds Tryz.pinned (.plain (OpenSpec.ofChange shapeLastSpec)) shapeLastCard

/-- THE SECOND FORM's CARD OF 'ctrielaw10.ShapeExact'. -/
def shapeExactUptoCard : Claim7 := { stood := { row := shapeExactUptoRow, standIns := [], harness := (true, "5a0b336fc2c5bed96289c90913d0a1c59496e7bd4f743cb2279f1d6a1855135a"), looks := false }, kinds := [], alts := [], laidByText := true, laidKinds := [.data], laidTests := true, laidLooks := .later }
def ShapeExactUptoCardSaid : Prop := Claim7.holds Tryz.pinned (.plain (OpenSpec.upto shapeExactSpec)) shapeExactUptoCard

/-- THE SECOND FORM's CARD OF 'ctrielaw10.ShapeReached'. -/
def shapeReachedUptoCard : Claim7 := { stood := { row := shapeReachedUptoRow, standIns := [], harness := (true, "5a0b336fc2c5bed96289c90913d0a1c59496e7bd4f743cb2279f1d6a1855135a"), looks := false }, kinds := [], alts := [], laidByText := true, laidKinds := [.data], laidTests := true, laidLooks := .later }
def ShapeReachedUptoCardSaid : Prop := Claim7.holds Tryz.pinned (.plain (OpenSpec.upto shapeReachedSpec)) shapeReachedUptoCard

/-- THE SECOND FORM's CARD OF 'ctrielaw10.ShapeDepth'. -/
def shapeDepthUptoCard : Claim7 := { stood := { row := shapeDepthUptoRow, standIns := [], harness := (true, "5a0b336fc2c5bed96289c90913d0a1c59496e7bd4f743cb2279f1d6a1855135a"), looks := false }, kinds := [], alts := [], laidByText := true, laidKinds := [.data], laidTests := true, laidLooks := .later }
def ShapeDepthUptoCardSaid : Prop := Claim7.holds Tryz.pinned (.plain (OpenSpec.upto shapeDepthSpec)) shapeDepthUptoCard

/-- THE SECOND FORM's CARD OF 'ctrielaw10.ShapeLast'. -/
def shapeLastUptoCard : Claim7 := { stood := { row := shapeLastUptoRow, standIns := [], harness := (true, "5a0b336fc2c5bed96289c90913d0a1c59496e7bd4f743cb2279f1d6a1855135a"), looks := false }, kinds := [], alts := [], laidByText := true, laidKinds := [.data], laidTests := true, laidLooks := .later }
def ShapeLastUptoCardSaid : Prop := Claim7.holds Tryz.pinned (.plain (OpenSpec.upto shapeLastSpec)) shapeLastUptoCard
end Rows
end Go.Proofs.YtadnboagdhcedaaGreatDoor
