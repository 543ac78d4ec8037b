/-
  No cell of these rows narrows 'for every input' (looked for: loops, veiled, ifaces, maps, wideKeys, modest, calm, conditions, laid).
  DERIVED. THE GIVEN ROWS OF THIS SEAT. 13 by the template 'for every input the law returns true; each argument reads behind the call as it read before'; 0 by the template 'total and deterministic' (their statements: YtmogngagpphnhaaTotals.lean).
  GIVEN WITH THE SEED: the statements are not yours to turn. If you find one false, say at which input.
  Laid BY PROGRAM, IN A SANDBOX (cutbox-rows.mjs): the forced cells as the released guide's own fill.sh prints them over the translation d6e2d52bd74c7cd3… (all of the seat's roots in one cut). By AI agents, Wed Nov 11 2026. No macro, syntax, notation, axiom, sorry.
-/
import Derived.Test.YtmogngagpphnhaaChecked
import GoSem.Claim
import GoSem.ClaimJoined
import GoSem.ClaimMapViews
import Derived.JoinedTies
import Derived.KernelRfl
namespace Go.Proofs.Ytmogngagpphnhaa
/- THE CELL 'sum', in the pinned program and in every row, IS THE sha256 OF THE DUMP (.gsa) THAT YtmogngagpphnhaaProg.lean LOADS. Nothing in Lean hashes anything: it is a label: what it is worth is what the hold of that sum in a sandbox is worth. -/
noncomputable def Try.pinned : Pinned := { name := "ytmogngagpphnhaa", sum := "d6e2d52bd74c7cd3f5ffdd3fa11fffc18dec8fb56c525c12db3574b026f579a9", checked := Try.checked }
namespace Rows
def none {H : Type} : Left H := { results := [], args := [] }

/-- 'ctrielaw05.ArenaAtomic': WHATEVER THE INPUT: true; the input reads as it did. -/
def arenaAtomicSpec : ChangeSpec := { name := "arenaAtomic", fn := fun _ => fun
  | [d1, d2, d3] => { results := [.lit (.bool true)], args := [d1, d2, d3] }
  | _ => none }
def arenaAtomicRow : OpenClaim := { program := "ytmogngagpphnhaa", sum := "d6e2d52bd74c7cd3f5ffdd3fa11fffc18dec8fb56c525c12db3574b026f579a9", func := "ctrie/ctrielaw05.ArenaAtomic", spec := "arenaAtomic", apart := false }
def ArenaAtomicSaid : Prop := arenaAtomicRow.holds Try.pinned (OpenSpec.ofChange arenaAtomicSpec)

/-- ITS FALSE NEIGHBOUR: 'it returns false'. Refute it at one input. -/
def arenaAtomicWrong : ChangeSpec := { name := "arenaAtomic", fn := fun _ => fun
  | [d1, d2, d3] => { results := [.lit (.bool false)], args := [d1, d2, d3] }
  | _ => none }
def ArenaAtomicWrongFalsely : Prop := arenaAtomicRow.holds Try.pinned (OpenSpec.ofChange arenaAtomicWrong)

/-- 'ctrielaw05.ArenaOf': WHATEVER THE INPUT: true; the input reads as it did. -/
def arenaOfSpec : ChangeSpec := { name := "arenaOf", fn := fun _ => fun
  | [d1, d2, d3, d4, d5] => { results := [.lit (.bool true)], args := [d1, d2, d3, d4, d5] }
  | _ => none }
def arenaOfRow : OpenClaim := { program := "ytmogngagpphnhaa", sum := "d6e2d52bd74c7cd3f5ffdd3fa11fffc18dec8fb56c525c12db3574b026f579a9", func := "ctrie/ctrielaw05.ArenaOf", spec := "arenaOf", apart := false }
def ArenaOfSaid : Prop := arenaOfRow.holds Try.pinned (OpenSpec.ofChange arenaOfSpec)

/-- ITS FALSE NEIGHBOUR: 'it returns false'. Refute it at one input. -/
def arenaOfWrong : ChangeSpec := { name := "arenaOf", fn := fun _ => fun
  | [d1, d2, d3, d4, d5] => { results := [.lit (.bool false)], args := [d1, d2, d3, d4, d5] }
  | _ => none }
def ArenaOfWrongFalsely : Prop := arenaOfRow.holds Try.pinned (OpenSpec.ofChange arenaOfWrong)

/-- 'ctrielaw05.ArenaNothing': WHATEVER THE INPUT: true; the input reads as it did. -/
def arenaNothingSpec : ChangeSpec := { name := "arenaNothing", fn := fun _ => fun
  | [d1, d2, d3, d4] => { results := [.lit (.bool true)], args := [d1, d2, d3, d4] }
  | _ => none }
def arenaNothingRow : OpenClaim := { program := "ytmogngagpphnhaa", sum := "d6e2d52bd74c7cd3f5ffdd3fa11fffc18dec8fb56c525c12db3574b026f579a9", func := "ctrie/ctrielaw05.ArenaNothing", spec := "arenaNothing", apart := false }
def ArenaNothingSaid : Prop := arenaNothingRow.holds Try.pinned (OpenSpec.ofChange arenaNothingSpec)

/-- ITS FALSE NEIGHBOUR: 'it returns false'. Refute it at one input. -/
def arenaNothingWrong : ChangeSpec := { name := "arenaNothing", fn := fun _ => fun
  | [d1, d2, d3, d4] => { results := [.lit (.bool false)], args := [d1, d2, d3, d4] }
  | _ => none }
def ArenaNothingWrongFalsely : Prop := arenaNothingRow.holds Try.pinned (OpenSpec.ofChange arenaNothingWrong)

/-- 'ctrielaw05.ArenaNodes': WHATEVER THE INPUT: true; the input reads as it did. -/
def arenaNodesSpec : ChangeSpec := { name := "arenaNodes", fn := fun _ => fun
  | [d1, d2] => { results := [.lit (.bool true)], args := [d1, d2] }
  | _ => none }
def arenaNodesRow : OpenClaim := { program := "ytmogngagpphnhaa", sum := "d6e2d52bd74c7cd3f5ffdd3fa11fffc18dec8fb56c525c12db3574b026f579a9", func := "ctrie/ctrielaw05.ArenaNodes", spec := "arenaNodes", apart := false }
def ArenaNodesSaid : Prop := arenaNodesRow.holds Try.pinned (OpenSpec.ofChange arenaNodesSpec)

/-- ITS FALSE NEIGHBOUR: 'it returns false'. Refute it at one input. -/
def arenaNodesWrong : ChangeSpec := { name := "arenaNodes", fn := fun _ => fun
  | [d1, d2] => { results := [.lit (.bool false)], args := [d1, d2] }
  | _ => none }
def ArenaNodesWrongFalsely : Prop := arenaNodesRow.holds Try.pinned (OpenSpec.ofChange arenaNodesWrong)

/-- 'ctrielaw05.ArenaPlays': WHATEVER THE INPUT: true; the input reads as it did. -/
def arenaPlaysSpec : ChangeSpec := { name := "arenaPlays", fn := fun _ => fun
  | [d1, d2, d3] => { results := [.lit (.bool true)], args := [d1, d2, d3] }
  | _ => none }
def arenaPlaysRow : OpenClaim := { program := "ytmogngagpphnhaa", sum := "d6e2d52bd74c7cd3f5ffdd3fa11fffc18dec8fb56c525c12db3574b026f579a9", func := "ctrie/ctrielaw05.ArenaPlays", spec := "arenaPlays", apart := false }
def ArenaPlaysSaid : Prop := arenaPlaysRow.holds Try.pinned (OpenSpec.ofChange arenaPlaysSpec)

/-- ITS FALSE NEIGHBOUR: 'it returns false'. Refute it at one input. -/
def arenaPlaysWrong : ChangeSpec := { name := "arenaPlays", fn := fun _ => fun
  | [d1, d2, d3] => { results := [.lit (.bool false)], args := [d1, d2, d3] }
  | _ => none }
def ArenaPlaysWrongFalsely : Prop := arenaPlaysRow.holds Try.pinned (OpenSpec.ofChange arenaPlaysWrong)

/-- 'ctrielaw11.TaskCodes': WHATEVER THE INPUT: true; the input reads as it did. -/
def taskCodesSpec : ChangeSpec := { name := "taskCodes", fn := fun _ => fun
  | [d1, d2, d3] => { results := [.lit (.bool true)], args := [d1, d2, d3] }
  | _ => none }
def taskCodesRow : OpenClaim := { program := "ytmogngagpphnhaa", sum := "d6e2d52bd74c7cd3f5ffdd3fa11fffc18dec8fb56c525c12db3574b026f579a9", func := "ctrie/ctrielaw11.TaskCodes", spec := "taskCodes", unfollowed := true, recurses := true, apart := false }
def TaskCodesSaid : Prop := taskCodesRow.holds Try.pinned (OpenSpec.ofChange taskCodesSpec)

/-- ITS FALSE NEIGHBOUR: 'it returns false'. Refute it at one input. -/
def taskCodesWrong : ChangeSpec := { name := "taskCodes", fn := fun _ => fun
  | [d1, d2, d3] => { results := [.lit (.bool false)], args := [d1, d2, d3] }
  | _ => none }
def TaskCodesWrongFalsely : Prop := taskCodesRow.holds Try.pinned (OpenSpec.ofChange taskCodesWrong)

/-- 'ctrielaw11.TaskRuns': WHATEVER THE INPUT: true; the input reads as it did. -/
def taskRunsSpec : ChangeSpec := { name := "taskRuns", fn := fun _ => fun
  | [d1, d2, d3, d4] => { results := [.lit (.bool true)], args := [d1, d2, d3, d4] }
  | _ => none }
def taskRunsRow : OpenClaim := { program := "ytmogngagpphnhaa", sum := "d6e2d52bd74c7cd3f5ffdd3fa11fffc18dec8fb56c525c12db3574b026f579a9", func := "ctrie/ctrielaw11.TaskRuns", spec := "taskRuns", unfollowed := true, recurses := true, apart := false }
def TaskRunsSaid : Prop := taskRunsRow.holds Try.pinned (OpenSpec.ofChange taskRunsSpec)

/-- ITS FALSE NEIGHBOUR: 'it returns false'. Refute it at one input. -/
def taskRunsWrong : ChangeSpec := { name := "taskRuns", fn := fun _ => fun
  | [d1, d2, d3, d4] => { results := [.lit (.bool false)], args := [d1, d2, d3, d4] }
  | _ => none }
def TaskRunsWrongFalsely : Prop := taskRunsRow.holds Try.pinned (OpenSpec.ofChange taskRunsWrong)

/-- 'ctrielaw11.TaskInterleaves': WHATEVER THE INPUT: true; the input reads as it did. -/
def taskInterleavesSpec : ChangeSpec := { name := "taskInterleaves", fn := fun _ => fun
  | [d1, d2, d3, d4] => { results := [.lit (.bool true)], args := [d1, d2, d3, d4] }
  | _ => none }
def taskInterleavesRow : OpenClaim := { program := "ytmogngagpphnhaa", sum := "d6e2d52bd74c7cd3f5ffdd3fa11fffc18dec8fb56c525c12db3574b026f579a9", func := "ctrie/ctrielaw11.TaskInterleaves", spec := "taskInterleaves", unfollowed := true, recurses := true, apart := false }
def TaskInterleavesSaid : Prop := taskInterleavesRow.holds Try.pinned (OpenSpec.ofChange taskInterleavesSpec)

/-- ITS FALSE NEIGHBOUR: 'it returns false'. Refute it at one input. -/
def taskInterleavesWrong : ChangeSpec := { name := "taskInterleaves", fn := fun _ => fun
  | [d1, d2, d3, d4] => { results := [.lit (.bool false)], args := [d1, d2, d3, d4] }
  | _ => none }
def TaskInterleavesWrongFalsely : Prop := taskInterleavesRow.holds Try.pinned (OpenSpec.ofChange taskInterleavesWrong)

/-- 'ctrielaw11.TaskWaits': WHATEVER THE INPUT: true; the input reads as it did. -/
def taskWaitsSpec : ChangeSpec := { name := "taskWaits", fn := fun _ => fun
  | [d1, d2] => { results := [.lit (.bool true)], args := [d1, d2] }
  | _ => none }
def taskWaitsRow : OpenClaim := { program := "ytmogngagpphnhaa", sum := "d6e2d52bd74c7cd3f5ffdd3fa11fffc18dec8fb56c525c12db3574b026f579a9", func := "ctrie/ctrielaw11.TaskWaits", spec := "taskWaits", unfollowed := true, recurses := true, apart := false }
def TaskWaitsSaid : Prop := taskWaitsRow.holds Try.pinned (OpenSpec.ofChange taskWaitsSpec)

/-- ITS FALSE NEIGHBOUR: 'it returns false'. Refute it at one input. -/
def taskWaitsWrong : ChangeSpec := { name := "taskWaits", fn := fun _ => fun
  | [d1, d2] => { results := [.lit (.bool false)], args := [d1, d2] }
  | _ => none }
def TaskWaitsWrongFalsely : Prop := taskWaitsRow.holds Try.pinned (OpenSpec.ofChange taskWaitsWrong)

/-- 'ctrielaw11.TaskPlans': WHATEVER THE INPUT: true; the input reads as it did. -/
def taskPlansSpec : ChangeSpec := { name := "taskPlans", fn := fun _ => fun
  | [d1, d2, d3] => { results := [.lit (.bool true)], args := [d1, d2, d3] }
  | _ => none }
def taskPlansRow : OpenClaim := { program := "ytmogngagpphnhaa", sum := "d6e2d52bd74c7cd3f5ffdd3fa11fffc18dec8fb56c525c12db3574b026f579a9", func := "ctrie/ctrielaw11.TaskPlans", spec := "taskPlans", unfollowed := true, recurses := true, apart := false }
def TaskPlansSaid : Prop := taskPlansRow.holds Try.pinned (OpenSpec.ofChange taskPlansSpec)

/-- ITS FALSE NEIGHBOUR: 'it returns false'. Refute it at one input. -/
def taskPlansWrong : ChangeSpec := { name := "taskPlans", fn := fun _ => fun
  | [d1, d2, d3] => { results := [.lit (.bool false)], args := [d1, d2, d3] }
  | _ => none }
def TaskPlansWrongFalsely : Prop := taskPlansRow.holds Try.pinned (OpenSpec.ofChange taskPlansWrong)

/-- 'ctrielaw08.DualCounts': WHATEVER THE INPUT: true; the input reads as it did. -/
def dualCountsSpec : ChangeSpec := { name := "dualCounts", fn := fun _ => fun
  | [d1, d2, d3, d4] => { results := [.lit (.bool true)], args := [d1, d2, d3, d4] }
  | _ => none }
def dualCountsRow : OpenClaim := { program := "ytmogngagpphnhaa", sum := "d6e2d52bd74c7cd3f5ffdd3fa11fffc18dec8fb56c525c12db3574b026f579a9", func := "ctrie/ctrielaw08.DualCounts", spec := "dualCounts", inPlace := ["internal/bytealg.abigen_runtime_cmpstring"], unfollowed := true, recurses := true, apart := false }
def DualCountsSaid : Prop := dualCountsRow.holds Try.pinned (OpenSpec.ofChange dualCountsSpec)

/-- ITS FALSE NEIGHBOUR: 'it returns false'. Refute it at one input. -/
def dualCountsWrong : ChangeSpec := { name := "dualCounts", fn := fun _ => fun
  | [d1, d2, d3, d4] => { results := [.lit (.bool false)], args := [d1, d2, d3, d4] }
  | _ => none }
def DualCountsWrongFalsely : Prop := dualCountsRow.holds Try.pinned (OpenSpec.ofChange dualCountsWrong)

/-- 'ctrielaw08.DualExact': WHATEVER THE INPUT: true; the input reads as it did. -/
def dualExactSpec : ChangeSpec := { name := "dualExact", fn := fun _ => fun
  | [d1, d2, d3, d4, d5, d6, d7, d8, d9] => { results := [.lit (.bool true)], args := [d1, d2, d3, d4, d5, d6, d7, d8, d9] }
  | _ => none }
def dualExactRow : OpenClaim := { program := "ytmogngagpphnhaa", sum := "d6e2d52bd74c7cd3f5ffdd3fa11fffc18dec8fb56c525c12db3574b026f579a9", func := "ctrie/ctrielaw08.DualExact", spec := "dualExact", inPlace := ["internal/bytealg.abigen_runtime_cmpstring"], unfollowed := true, recurses := true, apart := false }
def DualExactSaid : Prop := dualExactRow.holds Try.pinned (OpenSpec.ofChange dualExactSpec)

/-- ITS FALSE NEIGHBOUR: 'it returns false'. Refute it at one input. -/
def dualExactWrong : ChangeSpec := { name := "dualExact", fn := fun _ => fun
  | [d1, d2, d3, d4, d5, d6, d7, d8, d9] => { results := [.lit (.bool false)], args := [d1, d2, d3, d4, d5, d6, d7, d8, d9] }
  | _ => none }
def DualExactWrongFalsely : Prop := dualExactRow.holds Try.pinned (OpenSpec.ofChange dualExactWrong)

/-- 'ctrielaw08.DualRefuses': WHATEVER THE INPUT: true; the input reads as it did. -/
def dualRefusesSpec : ChangeSpec := { name := "dualRefuses", fn := fun _ => fun
  | [d1, d2, d3, d4, d5, d6] => { results := [.lit (.bool true)], args := [d1, d2, d3, d4, d5, d6] }
  | _ => none }
def dualRefusesRow : OpenClaim := { program := "ytmogngagpphnhaa", sum := "d6e2d52bd74c7cd3f5ffdd3fa11fffc18dec8fb56c525c12db3574b026f579a9", func := "ctrie/ctrielaw08.DualRefuses", spec := "dualRefuses", inPlace := ["internal/bytealg.abigen_runtime_cmpstring"], unfollowed := true, recurses := true, apart := false }
def DualRefusesSaid : Prop := dualRefusesRow.holds Try.pinned (OpenSpec.ofChange dualRefusesSpec)

/-- ITS FALSE NEIGHBOUR: 'it returns false'. Refute it at one input. -/
def dualRefusesWrong : ChangeSpec := { name := "dualRefuses", fn := fun _ => fun
  | [d1, d2, d3, d4, d5, d6] => { results := [.lit (.bool false)], args := [d1, d2, d3, d4, d5, d6] }
  | _ => none }
def DualRefusesWrongFalsely : Prop := dualRefusesRow.holds Try.pinned (OpenSpec.ofChange dualRefusesWrong)

/- THE SECOND FORM. 'bulk': how many values and letters a reading holds, each counted each time it is reached (what is shared counts as often as it is met; a slice's spare places count too). A statement '..UptoSaid' is the law's where the arguments, and the package variables that the reading takes, are together of bulk at most 1048576: NARROWER than '..Said'. Prove '..Said' where nothing that the law and all that it calls make is longer than what came in: it says more and counts as full. Else prove '..UptoSaid'. A law counts once. -/
mutual
def uptoBulk {H : Type} : DataW H → Nat
  | .lit (.string bytes) => bytes.length + 1
  | .lit _ => 1
  | .nil => 1
  | .ptr d => uptoBulk d + 1
  | .slice elems spare => uptoBulkAll elems + uptoBulkAll spare + 1
  | .agg parts => uptoBulkAll parts + 1
  | .iface _ d => uptoBulk d + 1
  | .map entries => uptoBulkEntries entries + 1
  | .held _ => 1
def uptoBulkAll {H : Type} : List (DataW H) → Nat
  | [] => 0
  | d :: r => uptoBulk d + uptoBulkAll r
def uptoBulkEntries {H : Type} : List (Lit × DataW H) → Nat
  | [] => 0
  | x :: r => uptoBulkEntry x + uptoBulkEntries r
def uptoBulkEntry {H : Type} : Lit × DataW H → Nat
  | (.string bytes, d) => bytes.length + uptoBulk d + 1
  | (_, d) => uptoBulk d + 1
 end
def uptoSmall : (H : Type) → List (DataW H) → Bool := fun _ ds => decide (uptoBulkAll ds ≤ 1048576)
def OpenSpec.upto (s : _root_.Go.ChangeSpec) : _root_.Go.OpenSpec := { _root_.Go.OpenSpec.ofChange s with cond := some uptoSmall }

/-- 'ctrielaw05.ArenaAtomic', WHERE WHAT IT READS IS OF BULK AT MOST 1048576: true; the input reads as it did. -/
def arenaAtomicUptoRow : OpenClaim := { program := "ytmogngagpphnhaa", sum := "d6e2d52bd74c7cd3f5ffdd3fa11fffc18dec8fb56c525c12db3574b026f579a9", func := "ctrie/ctrielaw05.ArenaAtomic", spec := "arenaAtomic", apart := false, narrowed := true }
def ArenaAtomicUptoSaid : Prop := arenaAtomicUptoRow.holds Try.pinned (OpenSpec.upto arenaAtomicSpec)

/-- 'ctrielaw05.ArenaOf', WHERE WHAT IT READS IS OF BULK AT MOST 1048576: true; the input reads as it did. -/
def arenaOfUptoRow : OpenClaim := { program := "ytmogngagpphnhaa", sum := "d6e2d52bd74c7cd3f5ffdd3fa11fffc18dec8fb56c525c12db3574b026f579a9", func := "ctrie/ctrielaw05.ArenaOf", spec := "arenaOf", apart := false, narrowed := true }
def ArenaOfUptoSaid : Prop := arenaOfUptoRow.holds Try.pinned (OpenSpec.upto arenaOfSpec)

/-- 'ctrielaw05.ArenaNothing', WHERE WHAT IT READS IS OF BULK AT MOST 1048576: true; the input reads as it did. -/
def arenaNothingUptoRow : OpenClaim := { program := "ytmogngagpphnhaa", sum := "d6e2d52bd74c7cd3f5ffdd3fa11fffc18dec8fb56c525c12db3574b026f579a9", func := "ctrie/ctrielaw05.ArenaNothing", spec := "arenaNothing", apart := false, narrowed := true }
def ArenaNothingUptoSaid : Prop := arenaNothingUptoRow.holds Try.pinned (OpenSpec.upto arenaNothingSpec)

/-- 'ctrielaw05.ArenaNodes', WHERE WHAT IT READS IS OF BULK AT MOST 1048576: true; the input reads as it did. -/
def arenaNodesUptoRow : OpenClaim := { program := "ytmogngagpphnhaa", sum := "d6e2d52bd74c7cd3f5ffdd3fa11fffc18dec8fb56c525c12db3574b026f579a9", func := "ctrie/ctrielaw05.ArenaNodes", spec := "arenaNodes", apart := false, narrowed := true }
def ArenaNodesUptoSaid : Prop := arenaNodesUptoRow.holds Try.pinned (OpenSpec.upto arenaNodesSpec)

/-- 'ctrielaw05.ArenaPlays', WHERE WHAT IT READS IS OF BULK AT MOST 1048576: true; the input reads as it did. -/
def arenaPlaysUptoRow : OpenClaim := { program := "ytmogngagpphnhaa", sum := "d6e2d52bd74c7cd3f5ffdd3fa11fffc18dec8fb56c525c12db3574b026f579a9", func := "ctrie/ctrielaw05.ArenaPlays", spec := "arenaPlays", apart := false, narrowed := true }
def ArenaPlaysUptoSaid : Prop := arenaPlaysUptoRow.holds Try.pinned (OpenSpec.upto arenaPlaysSpec)

/-- 'ctrielaw11.TaskCodes', WHERE WHAT IT READS IS OF BULK AT MOST 1048576: true; the input reads as it did. -/
def taskCodesUptoRow : OpenClaim := { program := "ytmogngagpphnhaa", sum := "d6e2d52bd74c7cd3f5ffdd3fa11fffc18dec8fb56c525c12db3574b026f579a9", func := "ctrie/ctrielaw11.TaskCodes", spec := "taskCodes", unfollowed := true, recurses := true, apart := false, narrowed := true }
def TaskCodesUptoSaid : Prop := taskCodesUptoRow.holds Try.pinned (OpenSpec.upto taskCodesSpec)

/-- 'ctrielaw11.TaskRuns', WHERE WHAT IT READS IS OF BULK AT MOST 1048576: true; the input reads as it did. -/
def taskRunsUptoRow : OpenClaim := { program := "ytmogngagpphnhaa", sum := "d6e2d52bd74c7cd3f5ffdd3fa11fffc18dec8fb56c525c12db3574b026f579a9", func := "ctrie/ctrielaw11.TaskRuns", spec := "taskRuns", unfollowed := true, recurses := true, apart := false, narrowed := true }
def TaskRunsUptoSaid : Prop := taskRunsUptoRow.holds Try.pinned (OpenSpec.upto taskRunsSpec)

/-- 'ctrielaw11.TaskInterleaves', WHERE WHAT IT READS IS OF BULK AT MOST 1048576: true; the input reads as it did. -/
def taskInterleavesUptoRow : OpenClaim := { program := "ytmogngagpphnhaa", sum := "d6e2d52bd74c7cd3f5ffdd3fa11fffc18dec8fb56c525c12db3574b026f579a9", func := "ctrie/ctrielaw11.TaskInterleaves", spec := "taskInterleaves", unfollowed := true, recurses := true, apart := false, narrowed := true }
def TaskInterleavesUptoSaid : Prop := taskInterleavesUptoRow.holds Try.pinned (OpenSpec.upto taskInterleavesSpec)

/-- 'ctrielaw11.TaskWaits', WHERE WHAT IT READS IS OF BULK AT MOST 1048576: true; the input reads as it did. -/
def taskWaitsUptoRow : OpenClaim := { program := "ytmogngagpphnhaa", sum := "d6e2d52bd74c7cd3f5ffdd3fa11fffc18dec8fb56c525c12db3574b026f579a9", func := "ctrie/ctrielaw11.TaskWaits", spec := "taskWaits", unfollowed := true, recurses := true, apart := false, narrowed := true }
def TaskWaitsUptoSaid : Prop := taskWaitsUptoRow.holds Try.pinned (OpenSpec.upto taskWaitsSpec)

/-- 'ctrielaw11.TaskPlans', WHERE WHAT IT READS IS OF BULK AT MOST 1048576: true; the input reads as it did. -/
def taskPlansUptoRow : OpenClaim := { program := "ytmogngagpphnhaa", sum := "d6e2d52bd74c7cd3f5ffdd3fa11fffc18dec8fb56c525c12db3574b026f579a9", func := "ctrie/ctrielaw11.TaskPlans", spec := "taskPlans", unfollowed := true, recurses := true, apart := false, narrowed := true }
def TaskPlansUptoSaid : Prop := taskPlansUptoRow.holds Try.pinned (OpenSpec.upto taskPlansSpec)

/-- 'ctrielaw08.DualCounts', WHERE WHAT IT READS IS OF BULK AT MOST 1048576: true; the input reads as it did. -/
def dualCountsUptoRow : OpenClaim := { program := "ytmogngagpphnhaa", sum := "d6e2d52bd74c7cd3f5ffdd3fa11fffc18dec8fb56c525c12db3574b026f579a9", func := "ctrie/ctrielaw08.DualCounts", spec := "dualCounts", inPlace := ["internal/bytealg.abigen_runtime_cmpstring"], unfollowed := true, recurses := true, apart := false, narrowed := true }
def DualCountsUptoSaid : Prop := dualCountsUptoRow.holds Try.pinned (OpenSpec.upto dualCountsSpec)

/-- 'ctrielaw08.DualExact', WHERE WHAT IT READS IS OF BULK AT MOST 1048576: true; the input reads as it did. -/
def dualExactUptoRow : OpenClaim := { program := "ytmogngagpphnhaa", sum := "d6e2d52bd74c7cd3f5ffdd3fa11fffc18dec8fb56c525c12db3574b026f579a9", func := "ctrie/ctrielaw08.DualExact", spec := "dualExact", inPlace := ["internal/bytealg.abigen_runtime_cmpstring"], unfollowed := true, recurses := true, apart := false, narrowed := true }
def DualExactUptoSaid : Prop := dualExactUptoRow.holds Try.pinned (OpenSpec.upto dualExactSpec)

/-- 'ctrielaw08.DualRefuses', WHERE WHAT IT READS IS OF BULK AT MOST 1048576: true; the input reads as it did. -/
def dualRefusesUptoRow : OpenClaim := { program := "ytmogngagpphnhaa", sum := "d6e2d52bd74c7cd3f5ffdd3fa11fffc18dec8fb56c525c12db3574b026f579a9", func := "ctrie/ctrielaw08.DualRefuses", spec := "dualRefuses", inPlace := ["internal/bytealg.abigen_runtime_cmpstring"], unfollowed := true, recurses := true, apart := false, narrowed := true }
def DualRefusesUptoSaid : Prop := dualRefusesUptoRow.holds Try.pinned (OpenSpec.upto dualRefusesSpec)

end Rows
end Go.Proofs.Ytmogngagpphnhaa
