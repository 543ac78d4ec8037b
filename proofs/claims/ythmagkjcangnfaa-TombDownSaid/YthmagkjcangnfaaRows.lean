/-
  No cell of these rows narrows 'for every input' (looked for: loops, veiled, ifaces, maps, wideKeys, modest, calm, conditions, laid).
  DERIVED. THE GIVEN ROWS OF THIS SEAT. 18 by the template 'for every input the law returns true; each argument reads behind the call as it read before'; 0 by the template 'total and deterministic' (their statements: YthmagkjcangnfaaTotals.lean).
  GIVEN WITH THE SEED: the statements are not yours to turn. If you find one false, say at which input.
  Laid BY PROGRAM, IN A SANDBOX (cutbox-rows.mjs): the forced cells as the released guide's own fill.sh prints them over the translation 7c7e6010d5e9b1ba… (all of the seat's roots in one cut). By AI agents, Wed Nov 11 2026. No macro, syntax, notation, axiom, sorry.
-/
import Derived.Test.YthmagkjcangnfaaChecked
import GoSem.Claim
import GoSem.ClaimJoined
import GoSem.ClaimMapViews
import Derived.JoinedTies
import Derived.KernelRfl
namespace Go.Proofs.Ythmagkjcangnfaa
/- THE CELL 'sum', in the pinned program and in every row, IS THE sha256 OF THE DUMP (.gsa) THAT YthmagkjcangnfaaProg.lean LOADS. Nothing in Lean hashes anything: it is a label: what it is worth is what the hold of that sum in a sandbox is worth. -/
noncomputable def Try.pinned : Pinned := { name := "ythmagkjcangnfaa", sum := "7c7e6010d5e9b1ba725e34c8d8b7cb99b80435b5419f513b3c72f93fc42cef1b", checked := Try.checked }
namespace Rows
def none {H : Type} : Left H := { results := [], args := [] }

/-- 'ctrielaw04.NodeClones': WHATEVER THE INPUT: true; the input reads as it did. -/
def nodeClonesSpec : ChangeSpec := { name := "nodeClones", fn := fun _ => fun
  | [d1, d2] => { results := [.lit (.bool true)], args := [d1, d2] }
  | _ => none }
def nodeClonesRow : OpenClaim := { program := "ythmagkjcangnfaa", sum := "7c7e6010d5e9b1ba725e34c8d8b7cb99b80435b5419f513b3c72f93fc42cef1b", func := "ctrie/ctrielaw04.NodeClones", spec := "nodeClones", apart := false }
def NodeClonesSaid : Prop := nodeClonesRow.holds Try.pinned (OpenSpec.ofChange nodeClonesSpec)

/-- ITS FALSE NEIGHBOUR: 'it returns false'. Refute it at one input. -/
def nodeClonesWrong : ChangeSpec := { name := "nodeClones", fn := fun _ => fun
  | [d1, d2] => { results := [.lit (.bool false)], args := [d1, d2] }
  | _ => none }
def NodeClonesWrongFalsely : Prop := nodeClonesRow.holds Try.pinned (OpenSpec.ofChange nodeClonesWrong)

/-- 'ctrielaw04.NodeValid': WHATEVER THE INPUT: true; the input reads as it did. -/
def nodeValidSpec : ChangeSpec := { name := "nodeValid", fn := fun _ => fun
  | [d1, d2, d3, d4, d5] => { results := [.lit (.bool true)], args := [d1, d2, d3, d4, d5] }
  | _ => none }
def nodeValidRow : OpenClaim := { program := "ythmagkjcangnfaa", sum := "7c7e6010d5e9b1ba725e34c8d8b7cb99b80435b5419f513b3c72f93fc42cef1b", func := "ctrie/ctrielaw04.NodeValid", spec := "nodeValid", apart := false }
def NodeValidSaid : Prop := nodeValidRow.holds Try.pinned (OpenSpec.ofChange nodeValidSpec)

/-- ITS FALSE NEIGHBOUR: 'it returns false'. Refute it at one input. -/
def nodeValidWrong : ChangeSpec := { name := "nodeValid", fn := fun _ => fun
  | [d1, d2, d3, d4, d5] => { results := [.lit (.bool false)], args := [d1, d2, d3, d4, d5] }
  | _ => none }
def NodeValidWrongFalsely : Prop := nodeValidRow.holds Try.pinned (OpenSpec.ofChange nodeValidWrong)

/-- 'ctrielaw04.NodeMakes': WHATEVER THE INPUT: true; the input reads as it did. -/
def nodeMakesSpec : ChangeSpec := { name := "nodeMakes", fn := fun _ => fun
  | [d1, d2, d3, d4, d5, d6, d7, d8] => { results := [.lit (.bool true)], args := [d1, d2, d3, d4, d5, d6, d7, d8] }
  | _ => none }
def nodeMakesRow : OpenClaim := { program := "ythmagkjcangnfaa", sum := "7c7e6010d5e9b1ba725e34c8d8b7cb99b80435b5419f513b3c72f93fc42cef1b", func := "ctrie/ctrielaw04.NodeMakes", spec := "nodeMakes", apart := false }
def NodeMakesSaid : Prop := nodeMakesRow.holds Try.pinned (OpenSpec.ofChange nodeMakesSpec)

/-- ITS FALSE NEIGHBOUR: 'it returns false'. Refute it at one input. -/
def nodeMakesWrong : ChangeSpec := { name := "nodeMakes", fn := fun _ => fun
  | [d1, d2, d3, d4, d5, d6, d7, d8] => { results := [.lit (.bool false)], args := [d1, d2, d3, d4, d5, d6, d7, d8] }
  | _ => none }
def NodeMakesWrongFalsely : Prop := nodeMakesRow.holds Try.pinned (OpenSpec.ofChange nodeMakesWrong)

/-- 'ctrielaw04.NodeKinds': WHATEVER THE INPUT: true; the input reads as it did. -/
def nodeKindsSpec : ChangeSpec := { name := "nodeKinds", fn := fun _ => fun
  | [d1, d2, d3, d4] => { results := [.lit (.bool true)], args := [d1, d2, d3, d4] }
  | _ => none }
def nodeKindsRow : OpenClaim := { program := "ythmagkjcangnfaa", sum := "7c7e6010d5e9b1ba725e34c8d8b7cb99b80435b5419f513b3c72f93fc42cef1b", func := "ctrie/ctrielaw04.NodeKinds", spec := "nodeKinds", apart := false }
def NodeKindsSaid : Prop := nodeKindsRow.holds Try.pinned (OpenSpec.ofChange nodeKindsSpec)

/-- ITS FALSE NEIGHBOUR: 'it returns false'. Refute it at one input. -/
def nodeKindsWrong : ChangeSpec := { name := "nodeKinds", fn := fun _ => fun
  | [d1, d2, d3, d4] => { results := [.lit (.bool false)], args := [d1, d2, d3, d4] }
  | _ => none }
def NodeKindsWrongFalsely : Prop := nodeKindsRow.holds Try.pinned (OpenSpec.ofChange nodeKindsWrong)

/-- 'ctrielaw06.BranchCommute': WHATEVER THE INPUT: true; the input reads as it did. -/
def branchCommuteSpec : ChangeSpec := { name := "branchCommute", fn := fun _ => fun
  | [d1, d2, d3, d4, d5] => { results := [.lit (.bool true)], args := [d1, d2, d3, d4, d5] }
  | _ => none }
def branchCommuteRow : OpenClaim := { program := "ythmagkjcangnfaa", sum := "7c7e6010d5e9b1ba725e34c8d8b7cb99b80435b5419f513b3c72f93fc42cef1b", func := "ctrie/ctrielaw06.BranchCommute", spec := "branchCommute", apart := false }
def BranchCommuteSaid : Prop := branchCommuteRow.holds Try.pinned (OpenSpec.ofChange branchCommuteSpec)

/-- ITS FALSE NEIGHBOUR: 'it returns false'. Refute it at one input. -/
def branchCommuteWrong : ChangeSpec := { name := "branchCommute", fn := fun _ => fun
  | [d1, d2, d3, d4, d5] => { results := [.lit (.bool false)], args := [d1, d2, d3, d4, d5] }
  | _ => none }
def BranchCommuteWrongFalsely : Prop := branchCommuteRow.holds Try.pinned (OpenSpec.ofChange branchCommuteWrong)

/-- 'ctrielaw06.BranchExact': WHATEVER THE INPUT: true; the input reads as it did. -/
def branchExactSpec : ChangeSpec := { name := "branchExact", fn := fun _ => fun
  | [d1, d2, d3, d4, d5] => { results := [.lit (.bool true)], args := [d1, d2, d3, d4, d5] }
  | _ => none }
def branchExactRow : OpenClaim := { program := "ythmagkjcangnfaa", sum := "7c7e6010d5e9b1ba725e34c8d8b7cb99b80435b5419f513b3c72f93fc42cef1b", func := "ctrie/ctrielaw06.BranchExact", spec := "branchExact", apart := false }
def BranchExactSaid : Prop := branchExactRow.holds Try.pinned (OpenSpec.ofChange branchExactSpec)

/-- ITS FALSE NEIGHBOUR: 'it returns false'. Refute it at one input. -/
def branchExactWrong : ChangeSpec := { name := "branchExact", fn := fun _ => fun
  | [d1, d2, d3, d4, d5] => { results := [.lit (.bool false)], args := [d1, d2, d3, d4, d5] }
  | _ => none }
def BranchExactWrongFalsely : Prop := branchExactRow.holds Try.pinned (OpenSpec.ofChange branchExactWrong)

/-- 'ctrielaw06.BranchMaps': WHATEVER THE INPUT: true; the input reads as it did. -/
def branchMapsSpec : ChangeSpec := { name := "branchMaps", fn := fun _ => fun
  | [d1, d2, d3, d4] => { results := [.lit (.bool true)], args := [d1, d2, d3, d4] }
  | _ => none }
def branchMapsRow : OpenClaim := { program := "ythmagkjcangnfaa", sum := "7c7e6010d5e9b1ba725e34c8d8b7cb99b80435b5419f513b3c72f93fc42cef1b", func := "ctrie/ctrielaw06.BranchMaps", spec := "branchMaps", apart := false }
def BranchMapsSaid : Prop := branchMapsRow.holds Try.pinned (OpenSpec.ofChange branchMapsSpec)

/-- ITS FALSE NEIGHBOUR: 'it returns false'. Refute it at one input. -/
def branchMapsWrong : ChangeSpec := { name := "branchMaps", fn := fun _ => fun
  | [d1, d2, d3, d4] => { results := [.lit (.bool false)], args := [d1, d2, d3, d4] }
  | _ => none }
def BranchMapsWrongFalsely : Prop := branchMapsRow.holds Try.pinned (OpenSpec.ofChange branchMapsWrong)

/-- 'ctrielaw06.BranchUndo': WHATEVER THE INPUT: true; the input reads as it did. -/
def branchUndoSpec : ChangeSpec := { name := "branchUndo", fn := fun _ => fun
  | [d1, d2, d3] => { results := [.lit (.bool true)], args := [d1, d2, d3] }
  | _ => none }
def branchUndoRow : OpenClaim := { program := "ythmagkjcangnfaa", sum := "7c7e6010d5e9b1ba725e34c8d8b7cb99b80435b5419f513b3c72f93fc42cef1b", func := "ctrie/ctrielaw06.BranchUndo", spec := "branchUndo", apart := false }
def BranchUndoSaid : Prop := branchUndoRow.holds Try.pinned (OpenSpec.ofChange branchUndoSpec)

/-- ITS FALSE NEIGHBOUR: 'it returns false'. Refute it at one input. -/
def branchUndoWrong : ChangeSpec := { name := "branchUndo", fn := fun _ => fun
  | [d1, d2, d3] => { results := [.lit (.bool false)], args := [d1, d2, d3] }
  | _ => none }
def BranchUndoWrongFalsely : Prop := branchUndoRow.holds Try.pinned (OpenSpec.ofChange branchUndoWrong)

/-- 'ctrielaw06.BranchValid': WHATEVER THE INPUT: true; the input reads as it did. -/
def branchValidSpec : ChangeSpec := { name := "branchValid", fn := fun _ => fun
  | [d1, d2, d3] => { results := [.lit (.bool true)], args := [d1, d2, d3] }
  | _ => none }
def branchValidRow : OpenClaim := { program := "ythmagkjcangnfaa", sum := "7c7e6010d5e9b1ba725e34c8d8b7cb99b80435b5419f513b3c72f93fc42cef1b", func := "ctrie/ctrielaw06.BranchValid", spec := "branchValid", apart := false }
def BranchValidSaid : Prop := branchValidRow.holds Try.pinned (OpenSpec.ofChange branchValidSpec)

/-- ITS FALSE NEIGHBOUR: 'it returns false'. Refute it at one input. -/
def branchValidWrong : ChangeSpec := { name := "branchValid", fn := fun _ => fun
  | [d1, d2, d3] => { results := [.lit (.bool false)], args := [d1, d2, d3] }
  | _ => none }
def BranchValidWrongFalsely : Prop := branchValidRow.holds Try.pinned (OpenSpec.ofChange branchValidWrong)

/-- 'ctrielaw03.PairsCommute': WHATEVER THE INPUT: true; the input reads as it did. -/
def pairsCommuteSpec : ChangeSpec := { name := "pairsCommute", fn := fun _ => fun
  | [d1, d2, d3, d4, d5] => { results := [.lit (.bool true)], args := [d1, d2, d3, d4, d5] }
  | _ => none }
def pairsCommuteRow : OpenClaim := { program := "ythmagkjcangnfaa", sum := "7c7e6010d5e9b1ba725e34c8d8b7cb99b80435b5419f513b3c72f93fc42cef1b", func := "ctrie/ctrielaw03.PairsCommute", spec := "pairsCommute", inPlace := ["internal/bytealg.abigen_runtime_cmpstring"], unfollowed := true, recurses := true, apart := false }
def PairsCommuteSaid : Prop := pairsCommuteRow.holds Try.pinned (OpenSpec.ofChange pairsCommuteSpec)

/-- ITS FALSE NEIGHBOUR: 'it returns false'. Refute it at one input. -/
def pairsCommuteWrong : ChangeSpec := { name := "pairsCommute", fn := fun _ => fun
  | [d1, d2, d3, d4, d5] => { results := [.lit (.bool false)], args := [d1, d2, d3, d4, d5] }
  | _ => none }
def PairsCommuteWrongFalsely : Prop := pairsCommuteRow.holds Try.pinned (OpenSpec.ofChange pairsCommuteWrong)

/-- 'ctrielaw03.PairsKeeps': WHATEVER THE INPUT: true; the input reads as it did. -/
def pairsKeepsSpec : ChangeSpec := { name := "pairsKeeps", fn := fun _ => fun
  | [d1, d2, d3] => { results := [.lit (.bool true)], args := [d1, d2, d3] }
  | _ => none }
def pairsKeepsRow : OpenClaim := { program := "ythmagkjcangnfaa", sum := "7c7e6010d5e9b1ba725e34c8d8b7cb99b80435b5419f513b3c72f93fc42cef1b", func := "ctrie/ctrielaw03.PairsKeeps", spec := "pairsKeeps", inPlace := ["internal/bytealg.abigen_runtime_cmpstring"], unfollowed := true, recurses := true, apart := false }
def PairsKeepsSaid : Prop := pairsKeepsRow.holds Try.pinned (OpenSpec.ofChange pairsKeepsSpec)

/-- ITS FALSE NEIGHBOUR: 'it returns false'. Refute it at one input. -/
def pairsKeepsWrong : ChangeSpec := { name := "pairsKeeps", fn := fun _ => fun
  | [d1, d2, d3] => { results := [.lit (.bool false)], args := [d1, d2, d3] }
  | _ => none }
def PairsKeepsWrongFalsely : Prop := pairsKeepsRow.holds Try.pinned (OpenSpec.ofChange pairsKeepsWrong)

/-- 'ctrielaw03.PairsExact': WHATEVER THE INPUT: true; the input reads as it did. -/
def pairsExactSpec : ChangeSpec := { name := "pairsExact", fn := fun _ => fun
  | [d1, d2, d3, d4] => { results := [.lit (.bool true)], args := [d1, d2, d3, d4] }
  | _ => none }
def pairsExactRow : OpenClaim := { program := "ythmagkjcangnfaa", sum := "7c7e6010d5e9b1ba725e34c8d8b7cb99b80435b5419f513b3c72f93fc42cef1b", func := "ctrie/ctrielaw03.PairsExact", spec := "pairsExact", inPlace := ["internal/bytealg.abigen_runtime_cmpstring"], unfollowed := true, recurses := true, apart := false }
def PairsExactSaid : Prop := pairsExactRow.holds Try.pinned (OpenSpec.ofChange pairsExactSpec)

/-- ITS FALSE NEIGHBOUR: 'it returns false'. Refute it at one input. -/
def pairsExactWrong : ChangeSpec := { name := "pairsExact", fn := fun _ => fun
  | [d1, d2, d3, d4] => { results := [.lit (.bool false)], args := [d1, d2, d3, d4] }
  | _ => none }
def PairsExactWrongFalsely : Prop := pairsExactRow.holds Try.pinned (OpenSpec.ofChange pairsExactWrong)

/-- 'ctrielaw03.PairsMaps': WHATEVER THE INPUT: true; the input reads as it did. -/
def pairsMapsSpec : ChangeSpec := { name := "pairsMaps", fn := fun _ => fun
  | [d1, d2, d3, d4] => { results := [.lit (.bool true)], args := [d1, d2, d3, d4] }
  | _ => none }
def pairsMapsRow : OpenClaim := { program := "ythmagkjcangnfaa", sum := "7c7e6010d5e9b1ba725e34c8d8b7cb99b80435b5419f513b3c72f93fc42cef1b", func := "ctrie/ctrielaw03.PairsMaps", spec := "pairsMaps", inPlace := ["internal/bytealg.abigen_runtime_cmpstring"], unfollowed := true, recurses := true, apart := false }
def PairsMapsSaid : Prop := pairsMapsRow.holds Try.pinned (OpenSpec.ofChange pairsMapsSpec)

/-- ITS FALSE NEIGHBOUR: 'it returns false'. Refute it at one input. -/
def pairsMapsWrong : ChangeSpec := { name := "pairsMaps", fn := fun _ => fun
  | [d1, d2, d3, d4] => { results := [.lit (.bool false)], args := [d1, d2, d3, d4] }
  | _ => none }
def PairsMapsWrongFalsely : Prop := pairsMapsRow.holds Try.pinned (OpenSpec.ofChange pairsMapsWrong)

/-- 'ctrielaw03.PairsLengths': WHATEVER THE INPUT: true; the input reads as it did. -/
def pairsLengthsSpec : ChangeSpec := { name := "pairsLengths", fn := fun _ => fun
  | [d1, d2, d3] => { results := [.lit (.bool true)], args := [d1, d2, d3] }
  | _ => none }
def pairsLengthsRow : OpenClaim := { program := "ythmagkjcangnfaa", sum := "7c7e6010d5e9b1ba725e34c8d8b7cb99b80435b5419f513b3c72f93fc42cef1b", func := "ctrie/ctrielaw03.PairsLengths", spec := "pairsLengths", inPlace := ["internal/bytealg.abigen_runtime_cmpstring"], unfollowed := true, recurses := true, apart := false }
def PairsLengthsSaid : Prop := pairsLengthsRow.holds Try.pinned (OpenSpec.ofChange pairsLengthsSpec)

/-- ITS FALSE NEIGHBOUR: 'it returns false'. Refute it at one input. -/
def pairsLengthsWrong : ChangeSpec := { name := "pairsLengths", fn := fun _ => fun
  | [d1, d2, d3] => { results := [.lit (.bool false)], args := [d1, d2, d3] }
  | _ => none }
def PairsLengthsWrongFalsely : Prop := pairsLengthsRow.holds Try.pinned (OpenSpec.ofChange pairsLengthsWrong)

/-- 'ctrielaw07.TombDown': WHATEVER THE INPUT: true; the input reads as it did. -/
def tombDownSpec : ChangeSpec := { name := "tombDown", fn := fun _ => fun
  | [d1, d2] => { results := [.lit (.bool true)], args := [d1, d2] }
  | _ => none }
def tombDownRow : OpenClaim := { program := "ythmagkjcangnfaa", sum := "7c7e6010d5e9b1ba725e34c8d8b7cb99b80435b5419f513b3c72f93fc42cef1b", func := "ctrie/ctrielaw07.TombDown", spec := "tombDown", inPlace := ["internal/bytealg.abigen_runtime_cmpstring"], unfollowed := true, recurses := true, apart := false }
def TombDownSaid : Prop := tombDownRow.holds Try.pinned (OpenSpec.ofChange tombDownSpec)

/-- ITS FALSE NEIGHBOUR: 'it returns false'. Refute it at one input. -/
def tombDownWrong : ChangeSpec := { name := "tombDown", fn := fun _ => fun
  | [d1, d2] => { results := [.lit (.bool false)], args := [d1, d2] }
  | _ => none }
def TombDownWrongFalsely : Prop := tombDownRow.holds Try.pinned (OpenSpec.ofChange tombDownWrong)

/-- 'ctrielaw07.TombUndo': WHATEVER THE INPUT: true; the input reads as it did. -/
def tombUndoSpec : ChangeSpec := { name := "tombUndo", fn := fun _ => fun
  | [d1, d2, d3, d4, d5, d6] => { results := [.lit (.bool true)], args := [d1, d2, d3, d4, d5, d6] }
  | _ => none }
def tombUndoRow : OpenClaim := { program := "ythmagkjcangnfaa", sum := "7c7e6010d5e9b1ba725e34c8d8b7cb99b80435b5419f513b3c72f93fc42cef1b", func := "ctrie/ctrielaw07.TombUndo", spec := "tombUndo", inPlace := ["internal/bytealg.abigen_runtime_cmpstring"], unfollowed := true, recurses := true, apart := false }
def TombUndoSaid : Prop := tombUndoRow.holds Try.pinned (OpenSpec.ofChange tombUndoSpec)

/-- ITS FALSE NEIGHBOUR: 'it returns false'. Refute it at one input. -/
def tombUndoWrong : ChangeSpec := { name := "tombUndo", fn := fun _ => fun
  | [d1, d2, d3, d4, d5, d6] => { results := [.lit (.bool false)], args := [d1, d2, d3, d4, d5, d6] }
  | _ => none }
def TombUndoWrongFalsely : Prop := tombUndoRow.holds Try.pinned (OpenSpec.ofChange tombUndoWrong)

/-- 'ctrielaw07.TombLists': WHATEVER THE INPUT: true; the input reads as it did. -/
def tombListsSpec : ChangeSpec := { name := "tombLists", fn := fun _ => fun
  | [d1, d2, d3] => { results := [.lit (.bool true)], args := [d1, d2, d3] }
  | _ => none }
def tombListsRow : OpenClaim := { program := "ythmagkjcangnfaa", sum := "7c7e6010d5e9b1ba725e34c8d8b7cb99b80435b5419f513b3c72f93fc42cef1b", func := "ctrie/ctrielaw07.TombLists", spec := "tombLists", inPlace := ["internal/bytealg.abigen_runtime_cmpstring"], unfollowed := true, recurses := true, apart := false }
def TombListsSaid : Prop := tombListsRow.holds Try.pinned (OpenSpec.ofChange tombListsSpec)

/-- ITS FALSE NEIGHBOUR: 'it returns false'. Refute it at one input. -/
def tombListsWrong : ChangeSpec := { name := "tombLists", fn := fun _ => fun
  | [d1, d2, d3] => { results := [.lit (.bool false)], args := [d1, d2, d3] }
  | _ => none }
def TombListsWrongFalsely : Prop := tombListsRow.holds Try.pinned (OpenSpec.ofChange tombListsWrong)

/-- 'ctrielaw07.TombExact': WHATEVER THE INPUT: true; the input reads as it did. -/
def tombExactSpec : ChangeSpec := { name := "tombExact", fn := fun _ => fun
  | [d1, d2, d3, d4, d5, d6] => { results := [.lit (.bool true)], args := [d1, d2, d3, d4, d5, d6] }
  | _ => none }
def tombExactRow : OpenClaim := { program := "ythmagkjcangnfaa", sum := "7c7e6010d5e9b1ba725e34c8d8b7cb99b80435b5419f513b3c72f93fc42cef1b", func := "ctrie/ctrielaw07.TombExact", spec := "tombExact", inPlace := ["internal/bytealg.abigen_runtime_cmpstring"], unfollowed := true, recurses := true, apart := false }
def TombExactSaid : Prop := tombExactRow.holds Try.pinned (OpenSpec.ofChange tombExactSpec)

/-- ITS FALSE NEIGHBOUR: 'it returns false'. Refute it at one input. -/
def tombExactWrong : ChangeSpec := { name := "tombExact", fn := fun _ => fun
  | [d1, d2, d3, d4, d5, d6] => { results := [.lit (.bool false)], args := [d1, d2, d3, d4, d5, d6] }
  | _ => none }
def TombExactWrongFalsely : Prop := tombExactRow.holds Try.pinned (OpenSpec.ofChange tombExactWrong)

/- THE SECOND FORM. 'bulk': how many values and letters a reading holds, each counted each time it is reached (what is shared counts as often as it is met; a slice's spare places count too). A statement '..UptoSaid' is the law's where the arguments, and the package variables that the reading takes, are together of bulk at most 1048576: NARROWER than '..Said'. Prove '..Said' where nothing that the law and all that it calls make is longer than what came in: it says more and counts as full. Else prove '..UptoSaid'. A law counts once. -/
mutual
def uptoBulk {H : Type} : DataW H → Nat
  | .lit (.string bytes) => bytes.length + 1
  | .lit _ => 1
  | .nil => 1
  | .ptr d => uptoBulk d + 1
  | .slice elems spare => uptoBulkAll elems + uptoBulkAll spare + 1
  | .agg parts => uptoBulkAll parts + 1
  | .iface _ d => uptoBulk d + 1
  | .map entries => uptoBulkEntries entries + 1
  | .held _ => 1
def uptoBulkAll {H : Type} : List (DataW H) → Nat
  | [] => 0
  | d :: r => uptoBulk d + uptoBulkAll r
def uptoBulkEntries {H : Type} : List (Lit × DataW H) → Nat
  | [] => 0
  | x :: r => uptoBulkEntry x + uptoBulkEntries r
def uptoBulkEntry {H : Type} : Lit × DataW H → Nat
  | (.string bytes, d) => bytes.length + uptoBulk d + 1
  | (_, d) => uptoBulk d + 1
 end
def uptoSmall : (H : Type) → List (DataW H) → Bool := fun _ ds => decide (uptoBulkAll ds ≤ 1048576)
def OpenSpec.upto (s : _root_.Go.ChangeSpec) : _root_.Go.OpenSpec := { _root_.Go.OpenSpec.ofChange s with cond := some uptoSmall }

/-- 'ctrielaw04.NodeClones', WHERE WHAT IT READS IS OF BULK AT MOST 1048576: true; the input reads as it did. -/
def nodeClonesUptoRow : OpenClaim := { program := "ythmagkjcangnfaa", sum := "7c7e6010d5e9b1ba725e34c8d8b7cb99b80435b5419f513b3c72f93fc42cef1b", func := "ctrie/ctrielaw04.NodeClones", spec := "nodeClones", apart := false, narrowed := true }
def NodeClonesUptoSaid : Prop := nodeClonesUptoRow.holds Try.pinned (OpenSpec.upto nodeClonesSpec)

/-- 'ctrielaw04.NodeValid', WHERE WHAT IT READS IS OF BULK AT MOST 1048576: true; the input reads as it did. -/
def nodeValidUptoRow : OpenClaim := { program := "ythmagkjcangnfaa", sum := "7c7e6010d5e9b1ba725e34c8d8b7cb99b80435b5419f513b3c72f93fc42cef1b", func := "ctrie/ctrielaw04.NodeValid", spec := "nodeValid", apart := false, narrowed := true }
def NodeValidUptoSaid : Prop := nodeValidUptoRow.holds Try.pinned (OpenSpec.upto nodeValidSpec)

/-- 'ctrielaw04.NodeMakes', WHERE WHAT IT READS IS OF BULK AT MOST 1048576: true; the input reads as it did. -/
def nodeMakesUptoRow : OpenClaim := { program := "ythmagkjcangnfaa", sum := "7c7e6010d5e9b1ba725e34c8d8b7cb99b80435b5419f513b3c72f93fc42cef1b", func := "ctrie/ctrielaw04.NodeMakes", spec := "nodeMakes", apart := false, narrowed := true }
def NodeMakesUptoSaid : Prop := nodeMakesUptoRow.holds Try.pinned (OpenSpec.upto nodeMakesSpec)

/-- 'ctrielaw04.NodeKinds', WHERE WHAT IT READS IS OF BULK AT MOST 1048576: true; the input reads as it did. -/
def nodeKindsUptoRow : OpenClaim := { program := "ythmagkjcangnfaa", sum := "7c7e6010d5e9b1ba725e34c8d8b7cb99b80435b5419f513b3c72f93fc42cef1b", func := "ctrie/ctrielaw04.NodeKinds", spec := "nodeKinds", apart := false, narrowed := true }
def NodeKindsUptoSaid : Prop := nodeKindsUptoRow.holds Try.pinned (OpenSpec.upto nodeKindsSpec)

/-- 'ctrielaw06.BranchCommute', WHERE WHAT IT READS IS OF BULK AT MOST 1048576: true; the input reads as it did. -/
def branchCommuteUptoRow : OpenClaim := { program := "ythmagkjcangnfaa", sum := "7c7e6010d5e9b1ba725e34c8d8b7cb99b80435b5419f513b3c72f93fc42cef1b", func := "ctrie/ctrielaw06.BranchCommute", spec := "branchCommute", apart := false, narrowed := true }
def BranchCommuteUptoSaid : Prop := branchCommuteUptoRow.holds Try.pinned (OpenSpec.upto branchCommuteSpec)

/-- 'ctrielaw06.BranchExact', WHERE WHAT IT READS IS OF BULK AT MOST 1048576: true; the input reads as it did. -/
def branchExactUptoRow : OpenClaim := { program := "ythmagkjcangnfaa", sum := "7c7e6010d5e9b1ba725e34c8d8b7cb99b80435b5419f513b3c72f93fc42cef1b", func := "ctrie/ctrielaw06.BranchExact", spec := "branchExact", apart := false, narrowed := true }
def BranchExactUptoSaid : Prop := branchExactUptoRow.holds Try.pinned (OpenSpec.upto branchExactSpec)

/-- 'ctrielaw06.BranchMaps', WHERE WHAT IT READS IS OF BULK AT MOST 1048576: true; the input reads as it did. -/
def branchMapsUptoRow : OpenClaim := { program := "ythmagkjcangnfaa", sum := "7c7e6010d5e9b1ba725e34c8d8b7cb99b80435b5419f513b3c72f93fc42cef1b", func := "ctrie/ctrielaw06.BranchMaps", spec := "branchMaps", apart := false, narrowed := true }
def BranchMapsUptoSaid : Prop := branchMapsUptoRow.holds Try.pinned (OpenSpec.upto branchMapsSpec)

/-- 'ctrielaw06.BranchUndo', WHERE WHAT IT READS IS OF BULK AT MOST 1048576: true; the input reads as it did. -/
def branchUndoUptoRow : OpenClaim := { program := "ythmagkjcangnfaa", sum := "7c7e6010d5e9b1ba725e34c8d8b7cb99b80435b5419f513b3c72f93fc42cef1b", func := "ctrie/ctrielaw06.BranchUndo", spec := "branchUndo", apart := false, narrowed := true }
def BranchUndoUptoSaid : Prop := branchUndoUptoRow.holds Try.pinned (OpenSpec.upto branchUndoSpec)

/-- 'ctrielaw06.BranchValid', WHERE WHAT IT READS IS OF BULK AT MOST 1048576: true; the input reads as it did. -/
def branchValidUptoRow : OpenClaim := { program := "ythmagkjcangnfaa", sum := "7c7e6010d5e9b1ba725e34c8d8b7cb99b80435b5419f513b3c72f93fc42cef1b", func := "ctrie/ctrielaw06.BranchValid", spec := "branchValid", apart := false, narrowed := true }
def BranchValidUptoSaid : Prop := branchValidUptoRow.holds Try.pinned (OpenSpec.upto branchValidSpec)

/-- 'ctrielaw03.PairsCommute', WHERE WHAT IT READS IS OF BULK AT MOST 1048576: true; the input reads as it did. -/
def pairsCommuteUptoRow : OpenClaim := { program := "ythmagkjcangnfaa", sum := "7c7e6010d5e9b1ba725e34c8d8b7cb99b80435b5419f513b3c72f93fc42cef1b", func := "ctrie/ctrielaw03.PairsCommute", spec := "pairsCommute", inPlace := ["internal/bytealg.abigen_runtime_cmpstring"], unfollowed := true, recurses := true, apart := false, narrowed := true }
def PairsCommuteUptoSaid : Prop := pairsCommuteUptoRow.holds Try.pinned (OpenSpec.upto pairsCommuteSpec)

/-- 'ctrielaw03.PairsKeeps', WHERE WHAT IT READS IS OF BULK AT MOST 1048576: true; the input reads as it did. -/
def pairsKeepsUptoRow : OpenClaim := { program := "ythmagkjcangnfaa", sum := "7c7e6010d5e9b1ba725e34c8d8b7cb99b80435b5419f513b3c72f93fc42cef1b", func := "ctrie/ctrielaw03.PairsKeeps", spec := "pairsKeeps", inPlace := ["internal/bytealg.abigen_runtime_cmpstring"], unfollowed := true, recurses := true, apart := false, narrowed := true }
def PairsKeepsUptoSaid : Prop := pairsKeepsUptoRow.holds Try.pinned (OpenSpec.upto pairsKeepsSpec)

/-- 'ctrielaw03.PairsExact', WHERE WHAT IT READS IS OF BULK AT MOST 1048576: true; the input reads as it did. -/
def pairsExactUptoRow : OpenClaim := { program := "ythmagkjcangnfaa", sum := "7c7e6010d5e9b1ba725e34c8d8b7cb99b80435b5419f513b3c72f93fc42cef1b", func := "ctrie/ctrielaw03.PairsExact", spec := "pairsExact", inPlace := ["internal/bytealg.abigen_runtime_cmpstring"], unfollowed := true, recurses := true, apart := false, narrowed := true }
def PairsExactUptoSaid : Prop := pairsExactUptoRow.holds Try.pinned (OpenSpec.upto pairsExactSpec)

/-- 'ctrielaw03.PairsMaps', WHERE WHAT IT READS IS OF BULK AT MOST 1048576: true; the input reads as it did. -/
def pairsMapsUptoRow : OpenClaim := { program := "ythmagkjcangnfaa", sum := "7c7e6010d5e9b1ba725e34c8d8b7cb99b80435b5419f513b3c72f93fc42cef1b", func := "ctrie/ctrielaw03.PairsMaps", spec := "pairsMaps", inPlace := ["internal/bytealg.abigen_runtime_cmpstring"], unfollowed := true, recurses := true, apart := false, narrowed := true }
def PairsMapsUptoSaid : Prop := pairsMapsUptoRow.holds Try.pinned (OpenSpec.upto pairsMapsSpec)

/-- 'ctrielaw03.PairsLengths', WHERE WHAT IT READS IS OF BULK AT MOST 1048576: true; the input reads as it did. -/
def pairsLengthsUptoRow : OpenClaim := { program := "ythmagkjcangnfaa", sum := "7c7e6010d5e9b1ba725e34c8d8b7cb99b80435b5419f513b3c72f93fc42cef1b", func := "ctrie/ctrielaw03.PairsLengths", spec := "pairsLengths", inPlace := ["internal/bytealg.abigen_runtime_cmpstring"], unfollowed := true, recurses := true, apart := false, narrowed := true }
def PairsLengthsUptoSaid : Prop := pairsLengthsUptoRow.holds Try.pinned (OpenSpec.upto pairsLengthsSpec)

/-- 'ctrielaw07.TombDown', WHERE WHAT IT READS IS OF BULK AT MOST 1048576: true; the input reads as it did. -/
def tombDownUptoRow : OpenClaim := { program := "ythmagkjcangnfaa", sum := "7c7e6010d5e9b1ba725e34c8d8b7cb99b80435b5419f513b3c72f93fc42cef1b", func := "ctrie/ctrielaw07.TombDown", spec := "tombDown", inPlace := ["internal/bytealg.abigen_runtime_cmpstring"], unfollowed := true, recurses := true, apart := false, narrowed := true }
def TombDownUptoSaid : Prop := tombDownUptoRow.holds Try.pinned (OpenSpec.upto tombDownSpec)

/-- 'ctrielaw07.TombUndo', WHERE WHAT IT READS IS OF BULK AT MOST 1048576: true; the input reads as it did. -/
def tombUndoUptoRow : OpenClaim := { program := "ythmagkjcangnfaa", sum := "7c7e6010d5e9b1ba725e34c8d8b7cb99b80435b5419f513b3c72f93fc42cef1b", func := "ctrie/ctrielaw07.TombUndo", spec := "tombUndo", inPlace := ["internal/bytealg.abigen_runtime_cmpstring"], unfollowed := true, recurses := true, apart := false, narrowed := true }
def TombUndoUptoSaid : Prop := tombUndoUptoRow.holds Try.pinned (OpenSpec.upto tombUndoSpec)

/-- 'ctrielaw07.TombLists', WHERE WHAT IT READS IS OF BULK AT MOST 1048576: true; the input reads as it did. -/
def tombListsUptoRow : OpenClaim := { program := "ythmagkjcangnfaa", sum := "7c7e6010d5e9b1ba725e34c8d8b7cb99b80435b5419f513b3c72f93fc42cef1b", func := "ctrie/ctrielaw07.TombLists", spec := "tombLists", inPlace := ["internal/bytealg.abigen_runtime_cmpstring"], unfollowed := true, recurses := true, apart := false, narrowed := true }
def TombListsUptoSaid : Prop := tombListsUptoRow.holds Try.pinned (OpenSpec.upto tombListsSpec)

/-- 'ctrielaw07.TombExact', WHERE WHAT IT READS IS OF BULK AT MOST 1048576: true; the input reads as it did. -/
def tombExactUptoRow : OpenClaim := { program := "ythmagkjcangnfaa", sum := "7c7e6010d5e9b1ba725e34c8d8b7cb99b80435b5419f513b3c72f93fc42cef1b", func := "ctrie/ctrielaw07.TombExact", spec := "tombExact", inPlace := ["internal/bytealg.abigen_runtime_cmpstring"], unfollowed := true, recurses := true, apart := false, narrowed := true }
def TombExactUptoSaid : Prop := tombExactUptoRow.holds Try.pinned (OpenSpec.upto tombExactSpec)

end Rows
end Go.Proofs.Ythmagkjcangnfaa
