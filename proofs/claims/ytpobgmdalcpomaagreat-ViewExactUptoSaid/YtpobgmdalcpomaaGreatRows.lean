/-
  No cell of these rows narrows 'for every input' (looked for: loops, veiled, ifaces, maps, wideKeys, modest, calm, conditions, laid).
  DERIVED. THE GIVEN ROWS OF THIS SEAT. 4 by the template 'for every input the law returns true; each argument reads behind the call as it read before'; 0 by the template 'total and deterministic' (their statements: YtpobgmdalcpomaaGreatTotals.lean).
  GIVEN WITH THE SEED: the statements are not yours to turn. If you find one false, say at which input.
  Laid BY PROGRAM, IN A SANDBOX (cutbox-rows.mjs): the forced cells as the released guide's own fill.sh prints them over the translation e78bcdd27c78fd1a… (all of the seat's roots in one cut). By AI agents, Wed Nov 11 2026. No macro, syntax, notation, axiom, sorry.
-/
import Derived.Test.YtpobgmdalcpomaaGreatChecked
import GoSem.Claim
import GoSem.ClaimJoined
import GoSem.ClaimMapViews
import Derived.JoinedTies
import Derived.KernelRfl
namespace Go.Proofs.YtpobgmdalcpomaaGreat
/- THE CELL 'sum', in the pinned program and in every row, IS THE sha256 OF THE DUMP (.gsa) THAT YtpobgmdalcpomaaGreatProg.lean LOADS. Nothing in Lean hashes anything: it is a label: what it is worth is what the hold of that sum in a sandbox is worth. -/
noncomputable def Tryz.pinned : Pinned := { name := "ytpobgmdalcpomaagreat", sum := "e78bcdd27c78fd1ad1f2c14301a329b1037318fe16d125e4578a4966efb48289", checked := Tryz.checked }
namespace Rows
def none {H : Type} : Left H := { results := [], args := [] }

/-- 'ctrielaw09.ViewOrder': WHATEVER THE INPUT: true; the input reads as it did. -/
def viewOrderSpec : ChangeSpec := { name := "viewOrder", fn := fun _ => fun
  | [d] => { results := [.lit (.bool true)], args := [d] }
  | _ => none }
def viewOrderRow : OpenClaim := { program := "ytpobgmdalcpomaagreat", sum := "e78bcdd27c78fd1ad1f2c14301a329b1037318fe16d125e4578a4966efb48289", func := "ctrie/ctrielaw09.ViewOrder", spec := "viewOrder", recurses := true, apart := false }
def ViewOrderSaid : Prop := viewOrderRow.holds Tryz.pinned (OpenSpec.ofChange viewOrderSpec)

/-- ITS FALSE NEIGHBOUR: 'it returns false'. Refute it at one input. -/
def viewOrderWrong : ChangeSpec := { name := "viewOrder", fn := fun _ => fun
  | [d] => { results := [.lit (.bool false)], args := [d] }
  | _ => none }
def ViewOrderWrongFalsely : Prop := viewOrderRow.holds Tryz.pinned (OpenSpec.ofChange viewOrderWrong)

/-- 'ctrielaw09.ViewPending': WHATEVER THE INPUT: true; the input reads as it did. -/
def viewPendingSpec : ChangeSpec := { name := "viewPending", fn := fun _ => fun
  | [d1, d2, d3] => { results := [.lit (.bool true)], args := [d1, d2, d3] }
  | _ => none }
def viewPendingRow : OpenClaim := { program := "ytpobgmdalcpomaagreat", sum := "e78bcdd27c78fd1ad1f2c14301a329b1037318fe16d125e4578a4966efb48289", func := "ctrie/ctrielaw09.ViewPending", spec := "viewPending", recurses := true, apart := false }
def ViewPendingSaid : Prop := viewPendingRow.holds Tryz.pinned (OpenSpec.ofChange viewPendingSpec)

/-- ITS FALSE NEIGHBOUR: 'it returns false'. Refute it at one input. -/
def viewPendingWrong : ChangeSpec := { name := "viewPending", fn := fun _ => fun
  | [d1, d2, d3] => { results := [.lit (.bool false)], args := [d1, d2, d3] }
  | _ => none }
def ViewPendingWrongFalsely : Prop := viewPendingRow.holds Tryz.pinned (OpenSpec.ofChange viewPendingWrong)

/-- 'ctrielaw09.ViewExact': WHATEVER THE INPUT: true; the input reads as it did. -/
def viewExactSpec : ChangeSpec := { name := "viewExact", fn := fun _ => fun
  | [d1, d2, d3, d4, d5, d6] => { results := [.lit (.bool true)], args := [d1, d2, d3, d4, d5, d6] }
  | _ => none }
def viewExactRow : OpenClaim := { program := "ytpobgmdalcpomaagreat", sum := "e78bcdd27c78fd1ad1f2c14301a329b1037318fe16d125e4578a4966efb48289", func := "ctrie/ctrielaw09.ViewExact", spec := "viewExact", recurses := true, apart := false }
def ViewExactSaid : Prop := viewExactRow.holds Tryz.pinned (OpenSpec.ofChange viewExactSpec)

/-- ITS FALSE NEIGHBOUR: 'it returns false'. Refute it at one input. -/
def viewExactWrong : ChangeSpec := { name := "viewExact", fn := fun _ => fun
  | [d1, d2, d3, d4, d5, d6] => { results := [.lit (.bool false)], args := [d1, d2, d3, d4, d5, d6] }
  | _ => none }
def ViewExactWrongFalsely : Prop := viewExactRow.holds Tryz.pinned (OpenSpec.ofChange viewExactWrong)

/-- 'ctrielaw09.ViewMains': WHATEVER THE INPUT: true; the input reads as it did. -/
def viewMainsSpec : ChangeSpec := { name := "viewMains", fn := fun _ => fun
  | [d] => { results := [.lit (.bool true)], args := [d] }
  | _ => none }
def viewMainsRow : OpenClaim := { program := "ytpobgmdalcpomaagreat", sum := "e78bcdd27c78fd1ad1f2c14301a329b1037318fe16d125e4578a4966efb48289", func := "ctrie/ctrielaw09.ViewMains", spec := "viewMains", recurses := true, apart := false }
def ViewMainsSaid : Prop := viewMainsRow.holds Tryz.pinned (OpenSpec.ofChange viewMainsSpec)

/-- ITS FALSE NEIGHBOUR: 'it returns false'. Refute it at one input. -/
def viewMainsWrong : ChangeSpec := { name := "viewMains", fn := fun _ => fun
  | [d] => { results := [.lit (.bool false)], args := [d] }
  | _ => none }
def ViewMainsWrongFalsely : Prop := viewMainsRow.holds Tryz.pinned (OpenSpec.ofChange viewMainsWrong)

/- THE SECOND FORM. 'bulk': how many values and letters a reading holds, each counted each time it is reached (what is shared counts as often as it is met; a slice's spare places count too). A statement '..UptoSaid' is the law's where the arguments, and the package variables that the reading takes, are together of bulk at most 1048576: NARROWER than '..Said'. Prove '..Said' where nothing that the law and all that it calls make is longer than what came in: it says more and counts as full. Else prove '..UptoSaid'. A law counts once. -/
mutual
def uptoBulk {H : Type} : DataW H → Nat
  | .lit (.string bytes) => bytes.length + 1
  | .lit _ => 1
  | .nil => 1
  | .ptr d => uptoBulk d + 1
  | .slice elems spare => uptoBulkAll elems + uptoBulkAll spare + 1
  | .agg parts => uptoBulkAll parts + 1
  | .iface _ d => uptoBulk d + 1
  | .map entries => uptoBulkEntries entries + 1
  | .held _ => 1
def uptoBulkAll {H : Type} : List (DataW H) → Nat
  | [] => 0
  | d :: r => uptoBulk d + uptoBulkAll r
def uptoBulkEntries {H : Type} : List (Lit × DataW H) → Nat
  | [] => 0
  | x :: r => uptoBulkEntry x + uptoBulkEntries r
def uptoBulkEntry {H : Type} : Lit × DataW H → Nat
  | (.string bytes, d) => bytes.length + uptoBulk d + 1
  | (_, d) => uptoBulk d + 1
 end
def uptoSmall : (H : Type) → List (DataW H) → Bool := fun _ ds => decide (uptoBulkAll ds ≤ 1048576)
def OpenSpec.upto (s : _root_.Go.ChangeSpec) : _root_.Go.OpenSpec := { _root_.Go.OpenSpec.ofChange s with cond := some uptoSmall }

/-- 'ctrielaw09.ViewOrder', WHERE WHAT IT READS IS OF BULK AT MOST 1048576: true; the input reads as it did. -/
def viewOrderUptoRow : OpenClaim := { program := "ytpobgmdalcpomaagreat", sum := "e78bcdd27c78fd1ad1f2c14301a329b1037318fe16d125e4578a4966efb48289", func := "ctrie/ctrielaw09.ViewOrder", spec := "viewOrder", recurses := true, apart := false, narrowed := true }
def ViewOrderUptoSaid : Prop := viewOrderUptoRow.holds Tryz.pinned (OpenSpec.upto viewOrderSpec)

/-- 'ctrielaw09.ViewPending', WHERE WHAT IT READS IS OF BULK AT MOST 1048576: true; the input reads as it did. -/
def viewPendingUptoRow : OpenClaim := { program := "ytpobgmdalcpomaagreat", sum := "e78bcdd27c78fd1ad1f2c14301a329b1037318fe16d125e4578a4966efb48289", func := "ctrie/ctrielaw09.ViewPending", spec := "viewPending", recurses := true, apart := false, narrowed := true }
def ViewPendingUptoSaid : Prop := viewPendingUptoRow.holds Tryz.pinned (OpenSpec.upto viewPendingSpec)

/-- 'ctrielaw09.ViewExact', WHERE WHAT IT READS IS OF BULK AT MOST 1048576: true; the input reads as it did. -/
def viewExactUptoRow : OpenClaim := { program := "ytpobgmdalcpomaagreat", sum := "e78bcdd27c78fd1ad1f2c14301a329b1037318fe16d125e4578a4966efb48289", func := "ctrie/ctrielaw09.ViewExact", spec := "viewExact", recurses := true, apart := false, narrowed := true }
def ViewExactUptoSaid : Prop := viewExactUptoRow.holds Tryz.pinned (OpenSpec.upto viewExactSpec)

/-- 'ctrielaw09.ViewMains', WHERE WHAT IT READS IS OF BULK AT MOST 1048576: true; the input reads as it did. -/
def viewMainsUptoRow : OpenClaim := { program := "ytpobgmdalcpomaagreat", sum := "e78bcdd27c78fd1ad1f2c14301a329b1037318fe16d125e4578a4966efb48289", func := "ctrie/ctrielaw09.ViewMains", spec := "viewMains", recurses := true, apart := false, narrowed := true }
def ViewMainsUptoSaid : Prop := viewMainsUptoRow.holds Tryz.pinned (OpenSpec.upto viewMainsSpec)

end Rows
end Go.Proofs.YtpobgmdalcpomaaGreat
