/- The law DualRefuses holds: the errors for nodes that are no single, and nothing is allocated then; for every input, without condition. -/
import Derived.Test.YtmogngagpphnhaaGOp
import Derived.Test.YtmogngagpphnhaaDu6
set_option linter.unusedSimpArgs false
set_option linter.unusedVariables false
namespace Go.Proofs.Ytmogngagpphnhaa
open Go.RowKit Go.Ct Go.ChangeShapes Go.WideShapes Go.ChangeAt

set_option maxRecDepth 100000 in
theorem dualRefuses_lifted (os : Os) (started : os.Started) (H : Type) (enc : TypeId × Value → H) :
    ReturnsInHanded {} Try.checked os 15 .any (Rows.dualRefusesSpec.pre6 enc Try.prog Try.f15 [] false) (Rows.dualRefusesSpec.post enc Try.prog Try.f15 false true false false) := by
  refine law_lifted (C := Try.checked) started ownT laidT (by kernel_rfl) Try.func15 (by kernel_rfl) rfl boolT rfl ?_
    (ChangeSpec.witness6 (enc := enc) (C := Try.checked) false ⟨#[], #[.slice none 0 0, .int .i64 0, .int .u64 0, .string ⟨#[]⟩, .int .i64 0, .int .i64 0], []⟩ 8 (by kernel_rfl) (by kernel_rfl) (by kernel_rfl) (by kernel_rfl)) ?_
  · intro ds hd
    match ds, hd with
    | [d1, d2, d3, d4, d5, d6], _ => exact ⟨rfl, rfl, rfl⟩
  · intro W args ds hc
    have ha := hc.split
    rw [show Try.f15.params.toList = [22, 39, 45, 9, 3, 3] from by kernel_rfl] at ha
    obtain ⟨v0, _, _, rfl, a0, ha⟩ := ha.next
    obtain ⟨v1, _, _, rfl, a1, ha⟩ := ha.next
    obtain ⟨v2, _, _, rfl, a2, ha⟩ := ha.next
    obtain ⟨v3, _, _, rfl, a3, ha⟩ := ha.next
    obtain ⟨v4, _, _, rfl, a4, ha⟩ := ha.next
    obtain ⟨v5, _, _, rfl, a5, ha⟩ := ha.next
    obtain rfl := ha.done
    obtain ⟨p0, l0, c0, rfl, hlc0, hc0, hcl0, hv0⟩ := arg_ints a0
    obtain ⟨i1, rfl, r1⟩ := arg_i64 a1 u_ref
    obtain ⟨i2, rfl, r2⟩ := arg_u64 a2 u_u64
    obtain ⟨s3, rfl, r3⟩ := a3.str u_str
    obtain ⟨i4, rfl, r4⟩ := arg_i64 a4 u_int
    obtain ⟨i5, rfl, r5⟩ := arg_i64 a5 u_int
    obtain ⟨h, rfl⟩ : ∃ h : Nat, i2 = (h : Int) := ⟨i2.toNat, by rw [Int.toNat_of_nonneg r2.1]⟩
    exact dualRefuses_c i1 i4 i5 hcl0 (by omega) (by have := r2.2; omega) r4.2
theorem dualRefuses_holds : Rows.DualRefusesSaid :=
  OpenClaim.holds_of_wide 15 Try.f15 rfl rfl rfl rfl rfl rfl rfl ⟨rfl, rfl, rfl, rfl, rfl⟩ rfl rfl rfl rfl rfl (by kernel_rfl) Try.func15 (by kernel_rfl)
    (of_decide_eq_true (by kernel_rfl)) (by unfold Func.isWrapper; first | (rw [if_pos (by decide +kernel)]; kernel_rfl) | (rw [if_neg (by decide +kernel)]; exact ⟨rfl, rfl⟩))
    (fun os started H enc _ => dualRefuses_lifted os started H enc)
#print axioms dualRefuses_holds
end Go.Proofs.Ytmogngagpphnhaa
