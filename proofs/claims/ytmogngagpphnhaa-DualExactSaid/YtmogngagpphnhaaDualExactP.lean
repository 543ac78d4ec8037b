/- The law DualExact holds: Build allocates the specified nodes and returns the specified node or error, for hash values that differ in any bit or not at all; for every input, without condition. -/
import Derived.Test.YtmogngagpphnhaaGOp
import Derived.Test.YtmogngagpphnhaaGDx
set_option linter.unusedSimpArgs false
set_option linter.unusedVariables false
namespace Go.Proofs.Ytmogngagpphnhaa
open Go.RowKit Go.Ct Go.ChangeShapes Go.WideShapes Go.ChangeAt

set_option maxRecDepth 100000 in
theorem dualExact_lifted (os : Os) (started : os.Started) (H : Type) (enc : TypeId × Value → H) :
    ReturnsInHanded {} Try.checked os 14 .any (Rows.dualExactSpec.pre6 enc Try.prog Try.f14 [] false) (Rows.dualExactSpec.post enc Try.prog Try.f14 false true false false) := by
  refine law_lifted (C := Try.checked) started ownT laidT (by kernel_rfl) Try.func14 (by kernel_rfl) rfl boolT rfl ?_
    (ChangeSpec.witness6 (enc := enc) (C := Try.checked) false ⟨#[], #[.int .u64 0, .int .u8 0, .string ⟨#[]⟩, .string ⟨#[]⟩, .int .u64 0, .int .u64 0, .int .i64 0, .int .i64 0, .bool false], []⟩ 8 (by kernel_rfl) (by kernel_rfl) (by kernel_rfl) (by kernel_rfl)) ?_
  · intro ds hd
    match ds, hd with
    | [d1, d2, d3, d4, d5, d6, d7, d8, d9], _ => exact ⟨rfl, rfl, rfl⟩
  · intro W args ds hc
    have ha := hc.split
    rw [show Try.f14.params.toList = [45, 5, 9, 9, 45, 45, 3, 3, 4] from by kernel_rfl] at ha
    obtain ⟨v0, _, _, rfl, a0, ha⟩ := ha.next
    obtain ⟨v1, _, _, rfl, a1, ha⟩ := ha.next
    obtain ⟨v2, _, _, rfl, a2, ha⟩ := ha.next
    obtain ⟨v3, _, _, rfl, a3, ha⟩ := ha.next
    obtain ⟨v4, _, _, rfl, a4, ha⟩ := ha.next
    obtain ⟨v5, _, _, rfl, a5, ha⟩ := ha.next
    obtain ⟨v6, _, _, rfl, a6, ha⟩ := ha.next
    obtain ⟨v7, _, _, rfl, a7, ha⟩ := ha.next
    obtain ⟨v8, _, _, rfl, a8, ha⟩ := ha.next
    obtain rfl := ha.done
    obtain ⟨i0, rfl, r0⟩ := arg_u64 a0 u_u64
    obtain ⟨i1, rfl, r1⟩ := arg_u8 a1 u_u8
    obtain ⟨s2, rfl, r2⟩ := a2.str u_str
    obtain ⟨s3, rfl, r3⟩ := a3.str u_str
    obtain ⟨i4, rfl, r4⟩ := arg_u64 a4 u_u64
    obtain ⟨i5, rfl, r5⟩ := arg_u64 a5 u_u64
    obtain ⟨i6, rfl, r6⟩ := arg_i64 a6 u_int
    obtain ⟨i7, rfl, r7⟩ := arg_i64 a7 u_int
    obtain ⟨b8, rfl⟩ := a8.bool boolT
    obtain ⟨h, rfl⟩ : ∃ h : Nat, i0 = (h : Int) := ⟨i0.toNat, by rw [Int.toNat_of_nonneg r0.1]⟩
    exact dualExact_c i1 (by have := r0.2; omega) (by have := r1; omega) r6 _
theorem dualExact_holds : Rows.DualExactSaid :=
  OpenClaim.holds_of_wide 14 Try.f14 rfl rfl rfl rfl rfl rfl rfl ⟨rfl, rfl, rfl, rfl, rfl⟩ rfl rfl rfl rfl rfl (by kernel_rfl) Try.func14 (by kernel_rfl)
    (of_decide_eq_true (by kernel_rfl)) (by unfold Func.isWrapper; first | (rw [if_pos (by decide +kernel)]; kernel_rfl) | (rw [if_neg (by decide +kernel)]; exact ⟨rfl, rfl⟩))
    (fun os started H enc _ => dualExact_lifted os started H enc)
#print axioms dualExact_holds
end Go.Proofs.Ytmogngagpphnhaa
