/- The law ViewDual holds: a trie whose root has the result of dual.Build for level 0 as its main node contains exactly the two pairs, in order, with the expected depth; for every input, without condition. -/
import Derived.Test.YtpfjjagcmjmfpaaGOp
import Derived.Test.YtpfjjagcmjmfpaaVd4
set_option linter.unusedSimpArgs false
set_option linter.unusedVariables false
namespace Go.Proofs.Ytpfjjagcmjmfpaa
open Go.RowKit Go.Ct Go.ChangeShapes Go.WideShapes Go.ChangeAt

set_option maxRecDepth 100000 in
theorem viewDual_lifted (os : Os) (started : os.Started) (H : Type) (enc : TypeId × Value → H) :
    ReturnsInHanded {} Try.checked os 3 .any (Rows.viewDualSpec.pre6 enc Try.prog Try.f3 [] false) (Rows.viewDualSpec.post enc Try.prog Try.f3 false true false false) := by
  refine law_lifted (C := Try.checked) started ownT laidT (by kernel_rfl) Try.func3 (by kernel_rfl) rfl boolT rfl ?_
    (ChangeSpec.witness6 (enc := enc) (C := Try.checked) false ⟨#[], #[.int .u64 0, .int .u8 0, .slice none 0 0, .int .u64 0, .int .u64 0], []⟩ 8 (by kernel_rfl) (by kernel_rfl) (by kernel_rfl) (by kernel_rfl)) ?_
  · intro ds hd
    match ds, hd with
    | [d1, d2, d3, d4, d5], _ => exact ⟨rfl, rfl, rfl⟩
  · intro W args ds hc
    have ha := hc.split
    rw [show Try.f3.params.toList = [22, 5, 23, 22, 22] from by kernel_rfl] at ha
    obtain ⟨v0, _, _, rfl, a0, ha⟩ := ha.next
    obtain ⟨v1, _, _, rfl, a1, ha⟩ := ha.next
    obtain ⟨v2, _, _, rfl, a2, ha⟩ := ha.next
    obtain ⟨v3, _, _, rfl, a3, ha⟩ := ha.next
    obtain ⟨v4, _, _, rfl, a4, ha⟩ := ha.next
    obtain rfl := ha.done
    obtain ⟨i0, rfl, r0⟩ := arg_u64 a0 u_u64
    obtain ⟨i1, rfl, r1⟩ := arg_u8 a1 u_u8
    obtain ⟨p2, l2, c2, rfl, hlc2, hc2, hcl2, hv2⟩ := arg_ints a2
    obtain ⟨i3, rfl, r3⟩ := arg_u64 a3 u_u64
    obtain ⟨i4, rfl, r4⟩ := arg_u64 a4 u_u64
    obtain ⟨h, rfl⟩ : ∃ h : Nat, i0 = (h : Int) := ⟨i0.toNat, by rw [Int.toNat_of_nonneg r0.1]⟩
    exact viewDual_c (by have := r0.2; omega) (by have := r1; omega) hcl2 (by omega)
theorem viewDual_holds : Rows.ViewDualSaid :=
  OpenClaim.holds_of_wide 3 Try.f3 rfl rfl rfl rfl rfl rfl rfl ⟨rfl, rfl, rfl, rfl, rfl⟩ rfl rfl rfl rfl rfl (by kernel_rfl) Try.func3 (by kernel_rfl)
    (of_decide_eq_true (by kernel_rfl)) (by unfold Func.isWrapper; first | (rw [if_pos (by decide +kernel)]; kernel_rfl) | (rw [if_neg (by decide +kernel)]; exact ⟨rfl, rfl⟩))
    (fun os started H enc _ => viewDual_lifted os started H enc)
#print axioms viewDual_holds
end Go.Proofs.Ytpfjjagcmjmfpaa
