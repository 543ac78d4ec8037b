/- The law NodeClones holds: clones are independent copies, for arbitrary nodes; for every input, without condition. -/
import Derived.Test.YthmagkjcangnfaaOpen2
import Derived.Test.YthmagkjcangnfaaNode11
set_option linter.unusedSimpArgs false
set_option linter.unusedVariables false
namespace Go.Proofs.Ythmagkjcangnfaa
open Go.RowKit Go.Ct Go.ChangeShapes Go.WideShapes Go.ChangeAt

set_option maxRecDepth 100000 in
theorem nodeClones_lifted (os : Os) (started : os.Started) (H : Type) (enc : TypeId × Value → H) :
    ReturnsInHanded {} Try.checked os 3 .any (Rows.nodeClonesSpec.pre6 enc Try.prog Try.f3 [] false) (Rows.nodeClonesSpec.post enc Try.prog Try.f3 false true false false) := by
  refine law_lifted (C := Try.checked) started ownT laidT (by kernel_rfl) Try.func3 (by kernel_rfl) rfl boolT rfl ?_
    (ChangeSpec.witness6 (enc := enc) (C := Try.checked) false ⟨#[], #[.agg ⟨[.int .i64 0, .int .i64 0, .int .i64 0, .int .u64 0, .slice none 0 0, .int .u64 0, .string ⟨#[]⟩, .int .u64 0, .slice none 0 0, .int .i64 0, .int .i64 0, .int .i64 0, .int .i64 0, .int .i64 0]⟩, .slice none 0 0], []⟩ 8 (by kernel_rfl) (by kernel_rfl) (by kernel_rfl) (by kernel_rfl)) ?_
  · intro ds hd
    match ds, hd with
    | [d1, d2], _ => exact ⟨rfl, rfl, rfl⟩
  · intro W args ds hc
    have ha := hc.split
    rw [show Try.f3.params.toList = [28, 29] from by kernel_rfl] at ha
    obtain ⟨v0, _, _, rfl, a0, ha⟩ := ha.next
    obtain ⟨v1, _, _, rfl, a1, ha⟩ := ha.next
    obtain rfl := ha.done
    obtain ⟨n0, xs0, ys0, rfl, hr0, hn0⟩ := arg_node a0
    obtain ⟨p1, l1, c1, rfl, hlc1, hc1, hcl1, hv1⟩ := arg_ints a1
    exact nodeClones_c hr0 hn0 hcl1 (by omega)
theorem nodeClones_holds : Rows.NodeClonesSaid :=
  OpenClaim.holds_of_wide 3 Try.f3 rfl rfl rfl rfl rfl rfl rfl ⟨rfl, rfl, rfl, rfl, rfl⟩ rfl rfl rfl rfl rfl (by kernel_rfl) Try.func3 (by kernel_rfl)
    (of_decide_eq_true (by kernel_rfl)) (by unfold Func.isWrapper; first | (rw [if_pos (by decide +kernel)]; kernel_rfl) | (rw [if_neg (by decide +kernel)]; exact ⟨rfl, rfl⟩))
    (fun os started H enc _ => nodeClones_lifted os started H enc)
#print axioms nodeClones_holds
end Go.Proofs.Ythmagkjcangnfaa
