/- The law NodeMakes holds: the constructors return nodes with the given fields, and no others; for every input, without condition. -/
import Derived.Test.YthmagkjcangnfaaOpen2
import Derived.Test.YthmagkjcangnfaaNode6
set_option linter.unusedSimpArgs false
set_option linter.unusedVariables false
namespace Go.Proofs.Ythmagkjcangnfaa
open Go.RowKit Go.Ct Go.ChangeShapes Go.WideShapes Go.ChangeAt

set_option maxRecDepth 100000 in
theorem nodeMakes_lifted (os : Os) (started : os.Started) (H : Type) (enc : TypeId × Value → H) :
    ReturnsInHanded {} Try.checked os 5 .any (Rows.nodeMakesSpec.pre6 enc Try.prog Try.f5 [] false) (Rows.nodeMakesSpec.post enc Try.prog Try.f5 false true false false) := by
  refine law_lifted (C := Try.checked) started ownT laidT (by kernel_rfl) Try.func5 (by kernel_rfl) rfl boolT rfl ?_
    (ChangeSpec.witness6 (enc := enc) (C := Try.checked) false ⟨#[], #[.int .i64 0, .int .u64 0, .string ⟨#[]⟩, .int .u64 0, .slice none 0 0, .int .i64 0, .int .i64 0, .int .i64 0], []⟩ 8 (by kernel_rfl) (by kernel_rfl) (by kernel_rfl) (by kernel_rfl)) ?_
  · intro ds hd
    match ds, hd with
    | [d1, d2, d3, d4, d5, d6, d7, d8], _ => exact ⟨rfl, rfl, rfl⟩
  · intro W args ds hc
    have ha := hc.split
    rw [show Try.f5.params.toList = [3, 23, 9, 23, 25, 26, 26, 26] from by kernel_rfl] at ha
    obtain ⟨v0, _, _, rfl, a0, ha⟩ := ha.next
    obtain ⟨v1, _, _, rfl, a1, ha⟩ := ha.next
    obtain ⟨v2, _, _, rfl, a2, ha⟩ := ha.next
    obtain ⟨v3, _, _, rfl, a3, ha⟩ := ha.next
    obtain ⟨v4, _, _, rfl, a4, ha⟩ := ha.next
    obtain ⟨v5, _, _, rfl, a5, ha⟩ := ha.next
    obtain ⟨v6, _, _, rfl, a6, ha⟩ := ha.next
    obtain ⟨v7, _, _, rfl, a7, ha⟩ := ha.next
    obtain rfl := ha.done
    obtain ⟨i0, rfl, r0⟩ := arg_i64 a0 u_int
    obtain ⟨i1, rfl, r1⟩ := arg_u64 a1 u_u64
    obtain ⟨s2, rfl, r2⟩ := a2.str u_str
    obtain ⟨i3, rfl, r3⟩ := arg_u64 a3 u_u64
    obtain ⟨p4, l4, c4, rfl, hlc4, hc4, hcl4, hv4⟩ := arg_prs a4
    obtain ⟨i5, rfl, r5⟩ := arg_i64 a5 u_ref
    obtain ⟨i6, rfl, r6⟩ := arg_i64 a6 u_ref
    obtain ⟨i7, rfl, r7⟩ := arg_i64 a7 u_ref
    exact nodeMakes_c hcl4 hlc4
theorem nodeMakes_holds : Rows.NodeMakesSaid :=
  OpenClaim.holds_of_wide 5 Try.f5 rfl rfl rfl rfl rfl rfl rfl ⟨rfl, rfl, rfl, rfl, rfl⟩ rfl rfl rfl rfl rfl (by kernel_rfl) Try.func5 (by kernel_rfl)
    (of_decide_eq_true (by kernel_rfl)) (by unfold Func.isWrapper; first | (rw [if_pos (by decide +kernel)]; kernel_rfl) | (rw [if_neg (by decide +kernel)]; exact ⟨rfl, rfl⟩))
    (fun os started H enc _ => nodeMakes_lifted os started H enc)
#print axioms nodeMakes_holds
end Go.Proofs.Ythmagkjcangnfaa
