/-
  No cell of these rows narrows 'for every input' (looked for: loops, veiled, ifaces, maps, wideKeys, modest, calm, conditions, laid).
  DERIVED. THE GIVEN ROWS OF THIS SEAT. 16 by the template 'for every input the law returns true; each argument reads behind the call as it read before'; 0 by the template 'total and deterministic' (their statements: YtbajmaoegmbfgaaGreatTotals.lean).
  GIVEN WITH THE SEED: the statements are not yours to turn. If you find one false, say at which input.
  Laid BY PROGRAM, IN A SANDBOX (cutbox-rows.mjs): the forced cells as the released guide's own fill.sh prints them over the translation cd4724ae63164fc8… (all of the seat's roots in one cut). By AI agents, Wed Nov 11 2026. No macro, syntax, notation, axiom, sorry.
-/
import Derived.Test.YtbajmaoegmbfgaaGreatChecked
import GoSem.Claim
import GoSem.ClaimJoined
import GoSem.ClaimMapViews
import Derived.JoinedTies
import Derived.KernelRfl
namespace Go.Proofs.YtbajmaoegmbfgaaGreat
/- THE CELL 'sum', in the pinned program and in every row, IS THE sha256 OF THE DUMP (.gsa) THAT YtbajmaoegmbfgaaGreatProg.lean LOADS. Nothing in Lean hashes anything: it is a label: what it is worth is what the hold of that sum in a sandbox is worth. -/
noncomputable def Tryz.pinned : Pinned := { name := "ytbajmaoegmbfgaagreat", sum := "cd4724ae63164fc89aca56fef29382c94b3308f70e0e763ec3c15b20bf44cbce", checked := Tryz.checked }
namespace Rows
def none {H : Type} : Left H := { results := [], args := [] }

/-- 'ctrielaw12.GcasStale': WHATEVER THE INPUT: true; the input reads as it did. -/
def gcasStaleSpec : ChangeSpec := { name := "gcasStale", fn := fun _ => fun
  | [d1, d2] => { results := [.lit (.bool true)], args := [d1, d2] }
  | _ => none }
def gcasStaleRow : OpenClaim := { program := "ytbajmaoegmbfgaagreat", sum := "cd4724ae63164fc89aca56fef29382c94b3308f70e0e763ec3c15b20bf44cbce", func := "ctrie/ctrielaw12.GcasStale", spec := "gcasStale", unfollowed := true, recurses := true, apart := false }
def GcasStaleSaid : Prop := gcasStaleRow.holds Tryz.pinned (OpenSpec.ofChange gcasStaleSpec)

/-- ITS FALSE NEIGHBOUR: 'it returns false'. Refute it at one input. -/
def gcasStaleWrong : ChangeSpec := { name := "gcasStale", fn := fun _ => fun
  | [d1, d2] => { results := [.lit (.bool false)], args := [d1, d2] }
  | _ => none }
def GcasStaleWrongFalsely : Prop := gcasStaleRow.holds Tryz.pinned (OpenSpec.ofChange gcasStaleWrong)

/-- 'ctrielaw12.GcasOne': WHATEVER THE INPUT: true; the input reads as it did. -/
def gcasOneSpec : ChangeSpec := { name := "gcasOne", fn := fun _ => fun
  | [d1, d2, d3] => { results := [.lit (.bool true)], args := [d1, d2, d3] }
  | _ => none }
def gcasOneRow : OpenClaim := { program := "ytbajmaoegmbfgaagreat", sum := "cd4724ae63164fc89aca56fef29382c94b3308f70e0e763ec3c15b20bf44cbce", func := "ctrie/ctrielaw12.GcasOne", spec := "gcasOne", unfollowed := true, recurses := true, apart := false }
def GcasOneSaid : Prop := gcasOneRow.holds Tryz.pinned (OpenSpec.ofChange gcasOneSpec)

/-- ITS FALSE NEIGHBOUR: 'it returns false'. Refute it at one input. -/
def gcasOneWrong : ChangeSpec := { name := "gcasOne", fn := fun _ => fun
  | [d1, d2, d3] => { results := [.lit (.bool false)], args := [d1, d2, d3] }
  | _ => none }
def GcasOneWrongFalsely : Prop := gcasOneRow.holds Tryz.pinned (OpenSpec.ofChange gcasOneWrong)

/-- 'ctrielaw12.GcasCosts': WHATEVER THE INPUT: true; the input reads as it did. -/
def gcasCostsSpec : ChangeSpec := { name := "gcasCosts", fn := fun _ => fun
  | [d1, d2] => { results := [.lit (.bool true)], args := [d1, d2] }
  | _ => none }
def gcasCostsRow : OpenClaim := { program := "ytbajmaoegmbfgaagreat", sum := "cd4724ae63164fc89aca56fef29382c94b3308f70e0e763ec3c15b20bf44cbce", func := "ctrie/ctrielaw12.GcasCosts", spec := "gcasCosts", unfollowed := true, recurses := true, apart := false }
def GcasCostsSaid : Prop := gcasCostsRow.holds Tryz.pinned (OpenSpec.ofChange gcasCostsSpec)

/-- ITS FALSE NEIGHBOUR: 'it returns false'. Refute it at one input. -/
def gcasCostsWrong : ChangeSpec := { name := "gcasCosts", fn := fun _ => fun
  | [d1, d2] => { results := [.lit (.bool false)], args := [d1, d2] }
  | _ => none }
def GcasCostsWrongFalsely : Prop := gcasCostsRow.holds Tryz.pinned (OpenSpec.ofChange gcasCostsWrong)

/-- 'ctrielaw12.GcasSwaps': WHATEVER THE INPUT: true; the input reads as it did. -/
def gcasSwapsSpec : ChangeSpec := { name := "gcasSwaps", fn := fun _ => fun
  | [d1, d2] => { results := [.lit (.bool true)], args := [d1, d2] }
  | _ => none }
def gcasSwapsRow : OpenClaim := { program := "ytbajmaoegmbfgaagreat", sum := "cd4724ae63164fc89aca56fef29382c94b3308f70e0e763ec3c15b20bf44cbce", func := "ctrie/ctrielaw12.GcasSwaps", spec := "gcasSwaps", unfollowed := true, recurses := true, apart := false }
def GcasSwapsSaid : Prop := gcasSwapsRow.holds Tryz.pinned (OpenSpec.ofChange gcasSwapsSpec)

/-- ITS FALSE NEIGHBOUR: 'it returns false'. Refute it at one input. -/
def gcasSwapsWrong : ChangeSpec := { name := "gcasSwaps", fn := fun _ => fun
  | [d1, d2] => { results := [.lit (.bool false)], args := [d1, d2] }
  | _ => none }
def GcasSwapsWrongFalsely : Prop := gcasSwapsRow.holds Tryz.pinned (OpenSpec.ofChange gcasSwapsWrong)

/-- 'ctrielaw13.RootExpects': WHATEVER THE INPUT: true; the input reads as it did. -/
def rootExpectsSpec : ChangeSpec := { name := "rootExpects", fn := fun _ => fun
  | [d1, d2, d3] => { results := [.lit (.bool true)], args := [d1, d2, d3] }
  | _ => none }
def rootExpectsRow : OpenClaim := { program := "ytbajmaoegmbfgaagreat", sum := "cd4724ae63164fc89aca56fef29382c94b3308f70e0e763ec3c15b20bf44cbce", func := "ctrie/ctrielaw13.RootExpects", spec := "rootExpects", unfollowed := true, recurses := true, apart := false }
def RootExpectsSaid : Prop := rootExpectsRow.holds Tryz.pinned (OpenSpec.ofChange rootExpectsSpec)

/-- ITS FALSE NEIGHBOUR: 'it returns false'. Refute it at one input. -/
def rootExpectsWrong : ChangeSpec := { name := "rootExpects", fn := fun _ => fun
  | [d1, d2, d3] => { results := [.lit (.bool false)], args := [d1, d2, d3] }
  | _ => none }
def RootExpectsWrongFalsely : Prop := rootExpectsRow.holds Tryz.pinned (OpenSpec.ofChange rootExpectsWrong)

/-- 'ctrielaw12.GcasReads': WHATEVER THE INPUT: true; the input reads as it did. -/
def gcasReadsSpec : ChangeSpec := { name := "gcasReads", fn := fun _ => fun
  | [d1, d2] => { results := [.lit (.bool true)], args := [d1, d2] }
  | _ => none }
def gcasReadsRow : OpenClaim := { program := "ytbajmaoegmbfgaagreat", sum := "cd4724ae63164fc89aca56fef29382c94b3308f70e0e763ec3c15b20bf44cbce", func := "ctrie/ctrielaw12.GcasReads", spec := "gcasReads", unfollowed := true, recurses := true, apart := false }
def GcasReadsSaid : Prop := gcasReadsRow.holds Tryz.pinned (OpenSpec.ofChange gcasReadsSpec)

/-- ITS FALSE NEIGHBOUR: 'it returns false'. Refute it at one input. -/
def gcasReadsWrong : ChangeSpec := { name := "gcasReads", fn := fun _ => fun
  | [d1, d2] => { results := [.lit (.bool false)], args := [d1, d2] }
  | _ => none }
def GcasReadsWrongFalsely : Prop := gcasReadsRow.holds Tryz.pinned (OpenSpec.ofChange gcasReadsWrong)

/-- 'ctrielaw12.GcasTogether': WHATEVER THE INPUT: true; the input reads as it did. -/
def gcasTogetherSpec : ChangeSpec := { name := "gcasTogether", fn := fun _ => fun
  | [d1, d2, d3] => { results := [.lit (.bool true)], args := [d1, d2, d3] }
  | _ => none }
def gcasTogetherRow : OpenClaim := { program := "ytbajmaoegmbfgaagreat", sum := "cd4724ae63164fc89aca56fef29382c94b3308f70e0e763ec3c15b20bf44cbce", func := "ctrie/ctrielaw12.GcasTogether", spec := "gcasTogether", unfollowed := true, recurses := true, apart := false }
def GcasTogetherSaid : Prop := gcasTogetherRow.holds Tryz.pinned (OpenSpec.ofChange gcasTogetherSpec)

/-- ITS FALSE NEIGHBOUR: 'it returns false'. Refute it at one input. -/
def gcasTogetherWrong : ChangeSpec := { name := "gcasTogether", fn := fun _ => fun
  | [d1, d2, d3] => { results := [.lit (.bool false)], args := [d1, d2, d3] }
  | _ => none }
def GcasTogetherWrongFalsely : Prop := gcasTogetherRow.holds Tryz.pinned (OpenSpec.ofChange gcasTogetherWrong)

/-- 'ctrielaw13.RootSwaps': WHATEVER THE INPUT: true; the input reads as it did. -/
def rootSwapsSpec : ChangeSpec := { name := "rootSwaps", fn := fun _ => fun
  | [d1, d2, d3] => { results := [.lit (.bool true)], args := [d1, d2, d3] }
  | _ => none }
def rootSwapsRow : OpenClaim := { program := "ytbajmaoegmbfgaagreat", sum := "cd4724ae63164fc89aca56fef29382c94b3308f70e0e763ec3c15b20bf44cbce", func := "ctrie/ctrielaw13.RootSwaps", spec := "rootSwaps", unfollowed := true, recurses := true, apart := false }
def RootSwapsSaid : Prop := rootSwapsRow.holds Tryz.pinned (OpenSpec.ofChange rootSwapsSpec)

/-- ITS FALSE NEIGHBOUR: 'it returns false'. Refute it at one input. -/
def rootSwapsWrong : ChangeSpec := { name := "rootSwaps", fn := fun _ => fun
  | [d1, d2, d3] => { results := [.lit (.bool false)], args := [d1, d2, d3] }
  | _ => none }
def RootSwapsWrongFalsely : Prop := rootSwapsRow.holds Tryz.pinned (OpenSpec.ofChange rootSwapsWrong)

/-- 'ctrielaw13.RootOne': WHATEVER THE INPUT: true; the input reads as it did. -/
def rootOneSpec : ChangeSpec := { name := "rootOne", fn := fun _ => fun
  | [d1, d2, d3] => { results := [.lit (.bool true)], args := [d1, d2, d3] }
  | _ => none }
def rootOneRow : OpenClaim := { program := "ytbajmaoegmbfgaagreat", sum := "cd4724ae63164fc89aca56fef29382c94b3308f70e0e763ec3c15b20bf44cbce", func := "ctrie/ctrielaw13.RootOne", spec := "rootOne", unfollowed := true, recurses := true, apart := false }
def RootOneSaid : Prop := rootOneRow.holds Tryz.pinned (OpenSpec.ofChange rootOneSpec)

/-- ITS FALSE NEIGHBOUR: 'it returns false'. Refute it at one input. -/
def rootOneWrong : ChangeSpec := { name := "rootOne", fn := fun _ => fun
  | [d1, d2, d3] => { results := [.lit (.bool false)], args := [d1, d2, d3] }
  | _ => none }
def RootOneWrongFalsely : Prop := rootOneRow.holds Tryz.pinned (OpenSpec.ofChange rootOneWrong)

/-- 'ctrielaw13.RootCosts': WHATEVER THE INPUT: true; the input reads as it did. -/
def rootCostsSpec : ChangeSpec := { name := "rootCosts", fn := fun _ => fun
  | [d1, d2] => { results := [.lit (.bool true)], args := [d1, d2] }
  | _ => none }
def rootCostsRow : OpenClaim := { program := "ytbajmaoegmbfgaagreat", sum := "cd4724ae63164fc89aca56fef29382c94b3308f70e0e763ec3c15b20bf44cbce", func := "ctrie/ctrielaw13.RootCosts", spec := "rootCosts", unfollowed := true, recurses := true, apart := false }
def RootCostsSaid : Prop := rootCostsRow.holds Tryz.pinned (OpenSpec.ofChange rootCostsSpec)

/-- ITS FALSE NEIGHBOUR: 'it returns false'. Refute it at one input. -/
def rootCostsWrong : ChangeSpec := { name := "rootCosts", fn := fun _ => fun
  | [d1, d2] => { results := [.lit (.bool false)], args := [d1, d2] }
  | _ => none }
def RootCostsWrongFalsely : Prop := rootCostsRow.holds Tryz.pinned (OpenSpec.ofChange rootCostsWrong)

/-- 'ctrielaw13.RootReads': WHATEVER THE INPUT: true; the input reads as it did. -/
def rootReadsSpec : ChangeSpec := { name := "rootReads", fn := fun _ => fun
  | [d1, d2] => { results := [.lit (.bool true)], args := [d1, d2] }
  | _ => none }
def rootReadsRow : OpenClaim := { program := "ytbajmaoegmbfgaagreat", sum := "cd4724ae63164fc89aca56fef29382c94b3308f70e0e763ec3c15b20bf44cbce", func := "ctrie/ctrielaw13.RootReads", spec := "rootReads", unfollowed := true, recurses := true, apart := false }
def RootReadsSaid : Prop := rootReadsRow.holds Tryz.pinned (OpenSpec.ofChange rootReadsSpec)

/-- ITS FALSE NEIGHBOUR: 'it returns false'. Refute it at one input. -/
def rootReadsWrong : ChangeSpec := { name := "rootReads", fn := fun _ => fun
  | [d1, d2] => { results := [.lit (.bool false)], args := [d1, d2] }
  | _ => none }
def RootReadsWrongFalsely : Prop := rootReadsRow.holds Tryz.pinned (OpenSpec.ofChange rootReadsWrong)

/-- 'ctrielaw13.RootTogether': WHATEVER THE INPUT: true; the input reads as it did. -/
def rootTogetherSpec : ChangeSpec := { name := "rootTogether", fn := fun _ => fun
  | [d1, d2, d3, d4] => { results := [.lit (.bool true)], args := [d1, d2, d3, d4] }
  | _ => none }
def rootTogetherRow : OpenClaim := { program := "ytbajmaoegmbfgaagreat", sum := "cd4724ae63164fc89aca56fef29382c94b3308f70e0e763ec3c15b20bf44cbce", func := "ctrie/ctrielaw13.RootTogether", spec := "rootTogether", unfollowed := true, recurses := true, apart := false }
def RootTogetherSaid : Prop := rootTogetherRow.holds Tryz.pinned (OpenSpec.ofChange rootTogetherSpec)

/-- ITS FALSE NEIGHBOUR: 'it returns false'. Refute it at one input. -/
def rootTogetherWrong : ChangeSpec := { name := "rootTogether", fn := fun _ => fun
  | [d1, d2, d3, d4] => { results := [.lit (.bool false)], args := [d1, d2, d3, d4] }
  | _ => none }
def RootTogetherWrongFalsely : Prop := rootTogetherRow.holds Tryz.pinned (OpenSpec.ofChange rootTogetherWrong)

/-- 'ctrielaw16.FindCosts': WHATEVER THE INPUT: true; the input reads as it did. -/
def findCostsSpec : ChangeSpec := { name := "findCosts", fn := fun _ => fun
  | [d1, d2] => { results := [.lit (.bool true)], args := [d1, d2] }
  | _ => none }
def findCostsRow : OpenClaim := { program := "ytbajmaoegmbfgaagreat", sum := "cd4724ae63164fc89aca56fef29382c94b3308f70e0e763ec3c15b20bf44cbce", func := "ctrie/ctrielaw16.FindCosts", spec := "findCosts", inPlace := ["internal/bytealg.abigen_runtime_cmpstring"], unfollowed := true, recurses := true, apart := false }
def FindCostsSaid : Prop := findCostsRow.holds Tryz.pinned (OpenSpec.ofChange findCostsSpec)

/-- ITS FALSE NEIGHBOUR: 'it returns false'. Refute it at one input. -/
def findCostsWrong : ChangeSpec := { name := "findCosts", fn := fun _ => fun
  | [d1, d2] => { results := [.lit (.bool false)], args := [d1, d2] }
  | _ => none }
def FindCostsWrongFalsely : Prop := findCostsRow.holds Tryz.pinned (OpenSpec.ofChange findCostsWrong)

/-- 'ctrielaw16.FindContents': WHATEVER THE INPUT: true; the input reads as it did. -/
def findContentsSpec : ChangeSpec := { name := "findContents", fn := fun _ => fun
  | [d1, d2] => { results := [.lit (.bool true)], args := [d1, d2] }
  | _ => none }
def findContentsRow : OpenClaim := { program := "ytbajmaoegmbfgaagreat", sum := "cd4724ae63164fc89aca56fef29382c94b3308f70e0e763ec3c15b20bf44cbce", func := "ctrie/ctrielaw16.FindContents", spec := "findContents", inPlace := ["internal/bytealg.abigen_runtime_cmpstring"], unfollowed := true, recurses := true, apart := false }
def FindContentsSaid : Prop := findContentsRow.holds Tryz.pinned (OpenSpec.ofChange findContentsSpec)

/-- ITS FALSE NEIGHBOUR: 'it returns false'. Refute it at one input. -/
def findContentsWrong : ChangeSpec := { name := "findContents", fn := fun _ => fun
  | [d1, d2] => { results := [.lit (.bool false)], args := [d1, d2] }
  | _ => none }
def FindContentsWrongFalsely : Prop := findContentsRow.holds Tryz.pinned (OpenSpec.ofChange findContentsWrong)

/-- 'ctrielaw16.FindExact': WHATEVER THE INPUT: true; the input reads as it did. -/
def findExactSpec : ChangeSpec := { name := "findExact", fn := fun _ => fun
  | [d1, d2, d3, d4] => { results := [.lit (.bool true)], args := [d1, d2, d3, d4] }
  | _ => none }
def findExactRow : OpenClaim := { program := "ytbajmaoegmbfgaagreat", sum := "cd4724ae63164fc89aca56fef29382c94b3308f70e0e763ec3c15b20bf44cbce", func := "ctrie/ctrielaw16.FindExact", spec := "findExact", inPlace := ["internal/bytealg.abigen_runtime_cmpstring"], unfollowed := true, recurses := true, apart := false }
def FindExactSaid : Prop := findExactRow.holds Tryz.pinned (OpenSpec.ofChange findExactSpec)

/-- ITS FALSE NEIGHBOUR: 'it returns false'. Refute it at one input. -/
def findExactWrong : ChangeSpec := { name := "findExact", fn := fun _ => fun
  | [d1, d2, d3, d4] => { results := [.lit (.bool false)], args := [d1, d2, d3, d4] }
  | _ => none }
def FindExactWrongFalsely : Prop := findExactRow.holds Tryz.pinned (OpenSpec.ofChange findExactWrong)

/-- 'ctrielaw16.FindWaitFree': WHATEVER THE INPUT: true; the input reads as it did. -/
def findWaitFreeSpec : ChangeSpec := { name := "findWaitFree", fn := fun _ => fun
  | [d1, d2, d3] => { results := [.lit (.bool true)], args := [d1, d2, d3] }
  | _ => none }
def findWaitFreeRow : OpenClaim := { program := "ytbajmaoegmbfgaagreat", sum := "cd4724ae63164fc89aca56fef29382c94b3308f70e0e763ec3c15b20bf44cbce", func := "ctrie/ctrielaw16.FindWaitFree", spec := "findWaitFree", inPlace := ["internal/bytealg.abigen_runtime_cmpstring"], unfollowed := true, recurses := true, apart := false }
def FindWaitFreeSaid : Prop := findWaitFreeRow.holds Tryz.pinned (OpenSpec.ofChange findWaitFreeSpec)

/-- ITS FALSE NEIGHBOUR: 'it returns false'. Refute it at one input. -/
def findWaitFreeWrong : ChangeSpec := { name := "findWaitFree", fn := fun _ => fun
  | [d1, d2, d3] => { results := [.lit (.bool false)], args := [d1, d2, d3] }
  | _ => none }
def FindWaitFreeWrongFalsely : Prop := findWaitFreeRow.holds Tryz.pinned (OpenSpec.ofChange findWaitFreeWrong)

/- THE SECOND FORM. 'bulk': how many values and letters a reading holds, each counted each time it is reached (what is shared counts as often as it is met; a slice's spare places count too). A statement '..UptoSaid' is the law's where the arguments, and the package variables that the reading takes, are together of bulk at most 1048576: NARROWER than '..Said'. Prove '..Said' where nothing that the law and all that it calls make is longer than what came in: it says more and counts as full. Else prove '..UptoSaid'. A law counts once. -/
mutual
def uptoBulk {H : Type} : DataW H → Nat
  | .lit (.string bytes) => bytes.length + 1
  | .lit _ => 1
  | .nil => 1
  | .ptr d => uptoBulk d + 1
  | .slice elems spare => uptoBulkAll elems + uptoBulkAll spare + 1
  | .agg parts => uptoBulkAll parts + 1
  | .iface _ d => uptoBulk d + 1
  | .map entries => uptoBulkEntries entries + 1
  | .held _ => 1
def uptoBulkAll {H : Type} : List (DataW H) → Nat
  | [] => 0
  | d :: r => uptoBulk d + uptoBulkAll r
def uptoBulkEntries {H : Type} : List (Lit × DataW H) → Nat
  | [] => 0
  | x :: r => uptoBulkEntry x + uptoBulkEntries r
def uptoBulkEntry {H : Type} : Lit × DataW H → Nat
  | (.string bytes, d) => bytes.length + uptoBulk d + 1
  | (_, d) => uptoBulk d + 1
 end
def uptoSmall : (H : Type) → List (DataW H) → Bool := fun _ ds => decide (uptoBulkAll ds ≤ 1048576)
def OpenSpec.upto (s : _root_.Go.ChangeSpec) : _root_.Go.OpenSpec := { _root_.Go.OpenSpec.ofChange s with cond := some uptoSmall }

/-- 'ctrielaw12.GcasStale', WHERE WHAT IT READS IS OF BULK AT MOST 1048576: true; the input reads as it did. -/
def gcasStaleUptoRow : OpenClaim := { program := "ytbajmaoegmbfgaagreat", sum := "cd4724ae63164fc89aca56fef29382c94b3308f70e0e763ec3c15b20bf44cbce", func := "ctrie/ctrielaw12.GcasStale", spec := "gcasStale", unfollowed := true, recurses := true, apart := false, narrowed := true }
def GcasStaleUptoSaid : Prop := gcasStaleUptoRow.holds Tryz.pinned (OpenSpec.upto gcasStaleSpec)

/-- 'ctrielaw12.GcasOne', WHERE WHAT IT READS IS OF BULK AT MOST 1048576: true; the input reads as it did. -/
def gcasOneUptoRow : OpenClaim := { program := "ytbajmaoegmbfgaagreat", sum := "cd4724ae63164fc89aca56fef29382c94b3308f70e0e763ec3c15b20bf44cbce", func := "ctrie/ctrielaw12.GcasOne", spec := "gcasOne", unfollowed := true, recurses := true, apart := false, narrowed := true }
def GcasOneUptoSaid : Prop := gcasOneUptoRow.holds Tryz.pinned (OpenSpec.upto gcasOneSpec)

/-- 'ctrielaw12.GcasCosts', WHERE WHAT IT READS IS OF BULK AT MOST 1048576: true; the input reads as it did. -/
def gcasCostsUptoRow : OpenClaim := { program := "ytbajmaoegmbfgaagreat", sum := "cd4724ae63164fc89aca56fef29382c94b3308f70e0e763ec3c15b20bf44cbce", func := "ctrie/ctrielaw12.GcasCosts", spec := "gcasCosts", unfollowed := true, recurses := true, apart := false, narrowed := true }
def GcasCostsUptoSaid : Prop := gcasCostsUptoRow.holds Tryz.pinned (OpenSpec.upto gcasCostsSpec)

/-- 'ctrielaw12.GcasSwaps', WHERE WHAT IT READS IS OF BULK AT MOST 1048576: true; the input reads as it did. -/
def gcasSwapsUptoRow : OpenClaim := { program := "ytbajmaoegmbfgaagreat", sum := "cd4724ae63164fc89aca56fef29382c94b3308f70e0e763ec3c15b20bf44cbce", func := "ctrie/ctrielaw12.GcasSwaps", spec := "gcasSwaps", unfollowed := true, recurses := true, apart := false, narrowed := true }
def GcasSwapsUptoSaid : Prop := gcasSwapsUptoRow.holds Tryz.pinned (OpenSpec.upto gcasSwapsSpec)

/-- 'ctrielaw13.RootExpects', WHERE WHAT IT READS IS OF BULK AT MOST 1048576: true; the input reads as it did. -/
def rootExpectsUptoRow : OpenClaim := { program := "ytbajmaoegmbfgaagreat", sum := "cd4724ae63164fc89aca56fef29382c94b3308f70e0e763ec3c15b20bf44cbce", func := "ctrie/ctrielaw13.RootExpects", spec := "rootExpects", unfollowed := true, recurses := true, apart := false, narrowed := true }
def RootExpectsUptoSaid : Prop := rootExpectsUptoRow.holds Tryz.pinned (OpenSpec.upto rootExpectsSpec)

/-- 'ctrielaw12.GcasReads', WHERE WHAT IT READS IS OF BULK AT MOST 1048576: true; the input reads as it did. -/
def gcasReadsUptoRow : OpenClaim := { program := "ytbajmaoegmbfgaagreat", sum := "cd4724ae63164fc89aca56fef29382c94b3308f70e0e763ec3c15b20bf44cbce", func := "ctrie/ctrielaw12.GcasReads", spec := "gcasReads", unfollowed := true, recurses := true, apart := false, narrowed := true }
def GcasReadsUptoSaid : Prop := gcasReadsUptoRow.holds Tryz.pinned (OpenSpec.upto gcasReadsSpec)

/-- 'ctrielaw12.GcasTogether', WHERE WHAT IT READS IS OF BULK AT MOST 1048576: true; the input reads as it did. -/
def gcasTogetherUptoRow : OpenClaim := { program := "ytbajmaoegmbfgaagreat", sum := "cd4724ae63164fc89aca56fef29382c94b3308f70e0e763ec3c15b20bf44cbce", func := "ctrie/ctrielaw12.GcasTogether", spec := "gcasTogether", unfollowed := true, recurses := true, apart := false, narrowed := true }
def GcasTogetherUptoSaid : Prop := gcasTogetherUptoRow.holds Tryz.pinned (OpenSpec.upto gcasTogetherSpec)

/-- 'ctrielaw13.RootSwaps', WHERE WHAT IT READS IS OF BULK AT MOST 1048576: true; the input reads as it did. -/
def rootSwapsUptoRow : OpenClaim := { program := "ytbajmaoegmbfgaagreat", sum := "cd4724ae63164fc89aca56fef29382c94b3308f70e0e763ec3c15b20bf44cbce", func := "ctrie/ctrielaw13.RootSwaps", spec := "rootSwaps", unfollowed := true, recurses := true, apart := false, narrowed := true }
def RootSwapsUptoSaid : Prop := rootSwapsUptoRow.holds Tryz.pinned (OpenSpec.upto rootSwapsSpec)

/-- 'ctrielaw13.RootOne', WHERE WHAT IT READS IS OF BULK AT MOST 1048576: true; the input reads as it did. -/
def rootOneUptoRow : OpenClaim := { program := "ytbajmaoegmbfgaagreat", sum := "cd4724ae63164fc89aca56fef29382c94b3308f70e0e763ec3c15b20bf44cbce", func := "ctrie/ctrielaw13.RootOne", spec := "rootOne", unfollowed := true, recurses := true, apart := false, narrowed := true }
def RootOneUptoSaid : Prop := rootOneUptoRow.holds Tryz.pinned (OpenSpec.upto rootOneSpec)

/-- 'ctrielaw13.RootCosts', WHERE WHAT IT READS IS OF BULK AT MOST 1048576: true; the input reads as it did. -/
def rootCostsUptoRow : OpenClaim := { program := "ytbajmaoegmbfgaagreat", sum := "cd4724ae63164fc89aca56fef29382c94b3308f70e0e763ec3c15b20bf44cbce", func := "ctrie/ctrielaw13.RootCosts", spec := "rootCosts", unfollowed := true, recurses := true, apart := false, narrowed := true }
def RootCostsUptoSaid : Prop := rootCostsUptoRow.holds Tryz.pinned (OpenSpec.upto rootCostsSpec)

/-- 'ctrielaw13.RootReads', WHERE WHAT IT READS IS OF BULK AT MOST 1048576: true; the input reads as it did. -/
def rootReadsUptoRow : OpenClaim := { program := "ytbajmaoegmbfgaagreat", sum := "cd4724ae63164fc89aca56fef29382c94b3308f70e0e763ec3c15b20bf44cbce", func := "ctrie/ctrielaw13.RootReads", spec := "rootReads", unfollowed := true, recurses := true, apart := false, narrowed := true }
def RootReadsUptoSaid : Prop := rootReadsUptoRow.holds Tryz.pinned (OpenSpec.upto rootReadsSpec)

/-- 'ctrielaw13.RootTogether', WHERE WHAT IT READS IS OF BULK AT MOST 1048576: true; the input reads as it did. -/
def rootTogetherUptoRow : OpenClaim := { program := "ytbajmaoegmbfgaagreat", sum := "cd4724ae63164fc89aca56fef29382c94b3308f70e0e763ec3c15b20bf44cbce", func := "ctrie/ctrielaw13.RootTogether", spec := "rootTogether", unfollowed := true, recurses := true, apart := false, narrowed := true }
def RootTogetherUptoSaid : Prop := rootTogetherUptoRow.holds Tryz.pinned (OpenSpec.upto rootTogetherSpec)

/-- 'ctrielaw16.FindCosts', WHERE WHAT IT READS IS OF BULK AT MOST 1048576: true; the input reads as it did. -/
def findCostsUptoRow : OpenClaim := { program := "ytbajmaoegmbfgaagreat", sum := "cd4724ae63164fc89aca56fef29382c94b3308f70e0e763ec3c15b20bf44cbce", func := "ctrie/ctrielaw16.FindCosts", spec := "findCosts", inPlace := ["internal/bytealg.abigen_runtime_cmpstring"], unfollowed := true, recurses := true, apart := false, narrowed := true }
def FindCostsUptoSaid : Prop := findCostsUptoRow.holds Tryz.pinned (OpenSpec.upto findCostsSpec)

/-- 'ctrielaw16.FindContents', WHERE WHAT IT READS IS OF BULK AT MOST 1048576: true; the input reads as it did. -/
def findContentsUptoRow : OpenClaim := { program := "ytbajmaoegmbfgaagreat", sum := "cd4724ae63164fc89aca56fef29382c94b3308f70e0e763ec3c15b20bf44cbce", func := "ctrie/ctrielaw16.FindContents", spec := "findContents", inPlace := ["internal/bytealg.abigen_runtime_cmpstring"], unfollowed := true, recurses := true, apart := false, narrowed := true }
def FindContentsUptoSaid : Prop := findContentsUptoRow.holds Tryz.pinned (OpenSpec.upto findContentsSpec)

/-- 'ctrielaw16.FindExact', WHERE WHAT IT READS IS OF BULK AT MOST 1048576: true; the input reads as it did. -/
def findExactUptoRow : OpenClaim := { program := "ytbajmaoegmbfgaagreat", sum := "cd4724ae63164fc89aca56fef29382c94b3308f70e0e763ec3c15b20bf44cbce", func := "ctrie/ctrielaw16.FindExact", spec := "findExact", inPlace := ["internal/bytealg.abigen_runtime_cmpstring"], unfollowed := true, recurses := true, apart := false, narrowed := true }
def FindExactUptoSaid : Prop := findExactUptoRow.holds Tryz.pinned (OpenSpec.upto findExactSpec)

/-- 'ctrielaw16.FindWaitFree', WHERE WHAT IT READS IS OF BULK AT MOST 1048576: true; the input reads as it did. -/
def findWaitFreeUptoRow : OpenClaim := { program := "ytbajmaoegmbfgaagreat", sum := "cd4724ae63164fc89aca56fef29382c94b3308f70e0e763ec3c15b20bf44cbce", func := "ctrie/ctrielaw16.FindWaitFree", spec := "findWaitFree", inPlace := ["internal/bytealg.abigen_runtime_cmpstring"], unfollowed := true, recurses := true, apart := false, narrowed := true }
def FindWaitFreeUptoSaid : Prop := findWaitFreeUptoRow.holds Tryz.pinned (OpenSpec.upto findWaitFreeSpec)

end Rows
end Go.Proofs.YtbajmaoegmbfgaaGreat
