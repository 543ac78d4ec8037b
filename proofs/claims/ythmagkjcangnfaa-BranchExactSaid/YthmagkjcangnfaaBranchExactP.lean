/- The law BranchExact holds: all functions of branch return the specified results, for arbitrary nodes and for C-nodes; for every input, without condition. -/
import Derived.Test.YthmagkjcangnfaaOpen2
import Derived.Test.YthmagkjcangnfaaBr10
set_option linter.unusedSimpArgs false
set_option linter.unusedVariables false
namespace Go.Proofs.Ythmagkjcangnfaa
open Go.RowKit Go.Ct Go.ChangeShapes Go.WideShapes Go.ChangeAt

set_option maxRecDepth 100000 in
theorem branchExact_lifted (os : Os) (started : os.Started) (H : Type) (enc : TypeId × Value → H) :
    ReturnsInHanded {} Try.checked os 8 .any (Rows.branchExactSpec.pre6 enc Try.prog Try.f8 [] false) (Rows.branchExactSpec.post enc Try.prog Try.f8 false true false false) := by
  refine law_lifted (C := Try.checked) started ownT laidT (by kernel_rfl) Try.func8 (by kernel_rfl) rfl boolT rfl ?_
    (ChangeSpec.witness6 (enc := enc) (C := Try.checked) false ⟨#[], #[.agg ⟨[.int .i64 0, .int .i64 0, .int .i64 0, .int .u64 0, .slice none 0 0, .int .u64 0, .string ⟨#[]⟩, .int .u64 0, .slice none 0 0, .int .i64 0, .int .i64 0, .int .i64 0, .int .i64 0, .int .i64 0]⟩, .slice none 0 0, .int .i64 0, .int .i64 0, .int .u8 0], []⟩ 8 (by kernel_rfl) (by kernel_rfl) (by kernel_rfl) (by kernel_rfl)) ?_
  · intro ds hd
    match ds, hd with
    | [d1, d2, d3, d4, d5], _ => exact ⟨rfl, rfl, rfl⟩
  · intro W args ds hc
    have ha := hc.split
    rw [show Try.f8.params.toList = [28, 29, 3, 26, 5] from by kernel_rfl] at ha
    obtain ⟨v0, _, _, rfl, a0, ha⟩ := ha.next
    obtain ⟨v1, _, _, rfl, a1, ha⟩ := ha.next
    obtain ⟨v2, _, _, rfl, a2, ha⟩ := ha.next
    obtain ⟨v3, _, _, rfl, a3, ha⟩ := ha.next
    obtain ⟨v4, _, _, rfl, a4, ha⟩ := ha.next
    obtain rfl := ha.done
    obtain ⟨n0, xs0, ys0, rfl, hr0, hn0⟩ := arg_node a0
    obtain ⟨p1, l1, c1, rfl, hlc1, hc1, hcl1, hv1⟩ := arg_ints a1
    obtain ⟨i2, rfl, r2⟩ := arg_i64 a2 u_int
    obtain ⟨i3, rfl, r3⟩ := arg_i64 a3 u_ref
    obtain ⟨i4, rfl, r4⟩ := arg_u8 a4 u_u8
    obtain ⟨bb, hbb⟩ := Int.eq_ofNat_of_zero_le hn0.bm.1
    exact branchExact_c hbb (by have := hn0.bm.2; omega) hr0 hn0.brc r4 hcl1 (by omega)
theorem branchExact_holds : Rows.BranchExactSaid :=
  OpenClaim.holds_of_wide 8 Try.f8 rfl rfl rfl rfl rfl rfl rfl ⟨rfl, rfl, rfl, rfl, rfl⟩ rfl rfl rfl rfl rfl (by kernel_rfl) Try.func8 (by kernel_rfl)
    (of_decide_eq_true (by kernel_rfl)) (by unfold Func.isWrapper; first | (rw [if_pos (by decide +kernel)]; kernel_rfl) | (rw [if_neg (by decide +kernel)]; exact ⟨rfl, rfl⟩))
    (fun os started H enc _ => branchExact_lifted os started H enc)
#print axioms branchExact_holds
end Go.Proofs.Ythmagkjcangnfaa
