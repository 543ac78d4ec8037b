/-
  No cell of these rows narrows 'for every input' (looked for: loops, veiled, ifaces, maps, wideKeys, modest, calm, conditions, laid).
  DERIVED. THE GIVEN ROWS OF THIS SEAT. 4 by the template 'for every input the law returns true; each argument reads behind the call as it read before'; 0 by the template 'total and deterministic' (their statements: YtdnklbipddigbaaGreatTotals.lean).
  GIVEN WITH THE SEED: the statements are not yours to turn. If you find one false, say at which input.
  Laid BY PROGRAM, IN A SANDBOX (cutbox-rows.mjs): the forced cells as the released guide's own fill.sh prints them over the translation 32b32ac4692d3354… (all of the seat's roots in one cut). By AI agents, Wed Nov 11 2026. No macro, syntax, notation, axiom, sorry.
-/
import Derived.Test.YtdnklbipddigbaaGreatChecked
import GoSem.Claim
import GoSem.ClaimJoined
import GoSem.ClaimMapViews
import Derived.JoinedTies
import Derived.KernelRfl
namespace Go.Proofs.YtdnklbipddigbaaGreat
/- THE CELL 'sum', in the pinned program and in every row, IS THE sha256 OF THE DUMP (.gsa) THAT YtdnklbipddigbaaGreatProg.lean LOADS. Nothing in Lean hashes anything: it is a label: what it is worth is what the hold of that sum in a sandbox is worth. -/
noncomputable def Tryz.pinned : Pinned := { name := "ytdnklbipddigbaagreat", sum := "32b32ac4692d3354c8cc8b2c31afee87a546807c476bf3e8a1c54224836fca5a", checked := Tryz.checked }
namespace Rows
def none {H : Type} : Left H := { results := [], args := [] }

/-- 'ctrielaw09.ViewPending': WHATEVER THE INPUT: true; the input reads as it did. -/
def viewPendingSpec : ChangeSpec := { name := "viewPending", fn := fun _ => fun
  | [d1, d2, d3] => { results := [.lit (.bool true)], args := [d1, d2, d3] }
  | _ => none }
def viewPendingRow : OpenClaim := { program := "ytdnklbipddigbaagreat", sum := "32b32ac4692d3354c8cc8b2c31afee87a546807c476bf3e8a1c54224836fca5a", func := "ctrie/ctrielaw09.ViewPending", spec := "viewPending", recurses := true, apart := false }
def ViewPendingSaid : Prop := viewPendingRow.holds Tryz.pinned (OpenSpec.ofChange viewPendingSpec)

/-- ITS FALSE NEIGHBOUR: 'it returns false'. Refute it at one input. -/
def viewPendingWrong : ChangeSpec := { name := "viewPending", fn := fun _ => fun
  | [d1, d2, d3] => { results := [.lit (.bool false)], args := [d1, d2, d3] }
  | _ => none }
def ViewPendingWrongFalsely : Prop := viewPendingRow.holds Tryz.pinned (OpenSpec.ofChange viewPendingWrong)

/-- 'ctrielaw12.GcasStale': WHATEVER THE INPUT: true; the input reads as it did. -/
def gcasStaleSpec : ChangeSpec := { name := "gcasStale", fn := fun _ => fun
  | [d1, d2] => { results := [.lit (.bool true)], args := [d1, d2] }
  | _ => none }
def gcasStaleRow : OpenClaim := { program := "ytdnklbipddigbaagreat", sum := "32b32ac4692d3354c8cc8b2c31afee87a546807c476bf3e8a1c54224836fca5a", func := "ctrie/ctrielaw12.GcasStale", spec := "gcasStale", unfollowed := true, recurses := true, apart := false }
def GcasStaleSaid : Prop := gcasStaleRow.holds Tryz.pinned (OpenSpec.ofChange gcasStaleSpec)

/-- ITS FALSE NEIGHBOUR: 'it returns false'. Refute it at one input. -/
def gcasStaleWrong : ChangeSpec := { name := "gcasStale", fn := fun _ => fun
  | [d1, d2] => { results := [.lit (.bool false)], args := [d1, d2] }
  | _ => none }
def GcasStaleWrongFalsely : Prop := gcasStaleRow.holds Tryz.pinned (OpenSpec.ofChange gcasStaleWrong)

/-- 'ctrielaw13.RootOne': WHATEVER THE INPUT: true; the input reads as it did. -/
def rootOneSpec : ChangeSpec := { name := "rootOne", fn := fun _ => fun
  | [d1, d2, d3] => { results := [.lit (.bool true)], args := [d1, d2, d3] }
  | _ => none }
def rootOneRow : OpenClaim := { program := "ytdnklbipddigbaagreat", sum := "32b32ac4692d3354c8cc8b2c31afee87a546807c476bf3e8a1c54224836fca5a", func := "ctrie/ctrielaw13.RootOne", spec := "rootOne", unfollowed := true, recurses := true, apart := false }
def RootOneSaid : Prop := rootOneRow.holds Tryz.pinned (OpenSpec.ofChange rootOneSpec)

/-- ITS FALSE NEIGHBOUR: 'it returns false'. Refute it at one input. -/
def rootOneWrong : ChangeSpec := { name := "rootOne", fn := fun _ => fun
  | [d1, d2, d3] => { results := [.lit (.bool false)], args := [d1, d2, d3] }
  | _ => none }
def RootOneWrongFalsely : Prop := rootOneRow.holds Tryz.pinned (OpenSpec.ofChange rootOneWrong)

/-- 'ctrielaw16.FindExact': WHATEVER THE INPUT: true; the input reads as it did. -/
def findExactSpec : ChangeSpec := { name := "findExact", fn := fun _ => fun
  | [d1, d2, d3, d4] => { results := [.lit (.bool true)], args := [d1, d2, d3, d4] }
  | _ => none }
def findExactRow : OpenClaim := { program := "ytdnklbipddigbaagreat", sum := "32b32ac4692d3354c8cc8b2c31afee87a546807c476bf3e8a1c54224836fca5a", func := "ctrie/ctrielaw16.FindExact", spec := "findExact", inPlace := ["internal/bytealg.abigen_runtime_cmpstring"], unfollowed := true, recurses := true, apart := false }
def FindExactSaid : Prop := findExactRow.holds Tryz.pinned (OpenSpec.ofChange findExactSpec)

/-- ITS FALSE NEIGHBOUR: 'it returns false'. Refute it at one input. -/
def findExactWrong : ChangeSpec := { name := "findExact", fn := fun _ => fun
  | [d1, d2, d3, d4] => { results := [.lit (.bool false)], args := [d1, d2, d3, d4] }
  | _ => none }
def FindExactWrongFalsely : Prop := findExactRow.holds Tryz.pinned (OpenSpec.ofChange findExactWrong)

/- THE SECOND FORM. 'bulk': how many values and letters a reading holds, each counted each time it is reached (what is shared counts as often as it is met; a slice's spare places count too). A statement '..UptoSaid' is the law's where the arguments, and the package variables that the reading takes, are together of bulk at most 1048576: NARROWER than '..Said'. Prove '..Said' where nothing that the law and all that it calls make is longer than what came in: it says more and counts as full. Else prove '..UptoSaid'. A law counts once. -/
mutual
def uptoBulk {H : Type} : DataW H → Nat
  | .lit (.string bytes) => bytes.length + 1
  | .lit _ => 1
  | .nil => 1
  | .ptr d => uptoBulk d + 1
  | .slice elems spare => uptoBulkAll elems + uptoBulkAll spare + 1
  | .agg parts => uptoBulkAll parts + 1
  | .iface _ d => uptoBulk d + 1
  | .map entries => uptoBulkEntries entries + 1
  | .held _ => 1
def uptoBulkAll {H : Type} : List (DataW H) → Nat
  | [] => 0
  | d :: r => uptoBulk d + uptoBulkAll r
def uptoBulkEntries {H : Type} : List (Lit × DataW H) → Nat
  | [] => 0
  | x :: r => uptoBulkEntry x + uptoBulkEntries r
def uptoBulkEntry {H : Type} : Lit × DataW H → Nat
  | (.string bytes, d) => bytes.length + uptoBulk d + 1
  | (_, d) => uptoBulk d + 1
 end
def uptoSmall : (H : Type) → List (DataW H) → Bool := fun _ ds => decide (uptoBulkAll ds ≤ 1048576)
def OpenSpec.upto (s : _root_.Go.ChangeSpec) : _root_.Go.OpenSpec := { _root_.Go.OpenSpec.ofChange s with cond := some uptoSmall }

/-- 'ctrielaw09.ViewPending', WHERE WHAT IT READS IS OF BULK AT MOST 1048576: true; the input reads as it did. -/
def viewPendingUptoRow : OpenClaim := { program := "ytdnklbipddigbaagreat", sum := "32b32ac4692d3354c8cc8b2c31afee87a546807c476bf3e8a1c54224836fca5a", func := "ctrie/ctrielaw09.ViewPending", spec := "viewPending", recurses := true, apart := false, narrowed := true }
def ViewPendingUptoSaid : Prop := viewPendingUptoRow.holds Tryz.pinned (OpenSpec.upto viewPendingSpec)

/-- 'ctrielaw12.GcasStale', WHERE WHAT IT READS IS OF BULK AT MOST 1048576: true; the input reads as it did. -/
def gcasStaleUptoRow : OpenClaim := { program := "ytdnklbipddigbaagreat", sum := "32b32ac4692d3354c8cc8b2c31afee87a546807c476bf3e8a1c54224836fca5a", func := "ctrie/ctrielaw12.GcasStale", spec := "gcasStale", unfollowed := true, recurses := true, apart := false, narrowed := true }
def GcasStaleUptoSaid : Prop := gcasStaleUptoRow.holds Tryz.pinned (OpenSpec.upto gcasStaleSpec)

/-- 'ctrielaw13.RootOne', WHERE WHAT IT READS IS OF BULK AT MOST 1048576: true; the input reads as it did. -/
def rootOneUptoRow : OpenClaim := { program := "ytdnklbipddigbaagreat", sum := "32b32ac4692d3354c8cc8b2c31afee87a546807c476bf3e8a1c54224836fca5a", func := "ctrie/ctrielaw13.RootOne", spec := "rootOne", unfollowed := true, recurses := true, apart := false, narrowed := true }
def RootOneUptoSaid : Prop := rootOneUptoRow.holds Tryz.pinned (OpenSpec.upto rootOneSpec)

/-- 'ctrielaw16.FindExact', WHERE WHAT IT READS IS OF BULK AT MOST 1048576: true; the input reads as it did. -/
def findExactUptoRow : OpenClaim := { program := "ytdnklbipddigbaagreat", sum := "32b32ac4692d3354c8cc8b2c31afee87a546807c476bf3e8a1c54224836fca5a", func := "ctrie/ctrielaw16.FindExact", spec := "findExact", inPlace := ["internal/bytealg.abigen_runtime_cmpstring"], unfollowed := true, recurses := true, apart := false, narrowed := true }
def FindExactUptoSaid : Prop := findExactUptoRow.holds Tryz.pinned (OpenSpec.upto findExactSpec)

end Rows
end Go.Proofs.YtdnklbipddigbaaGreat
