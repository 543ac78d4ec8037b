/- The law DualCounts holds: how many nodes are allocated for two keys; for every input, without condition. -/
import Derived.Test.YtmogngagpphnhaaGOp
import Derived.Test.YtmogngagpphnhaaGDu
set_option linter.unusedSimpArgs false
set_option linter.unusedVariables false
namespace Go.Proofs.Ytmogngagpphnhaa
open Go.RowKit Go.Ct Go.ChangeShapes Go.WideShapes Go.ChangeAt

set_option maxRecDepth 100000 in
theorem dualCounts_lifted (os : Os) (started : os.Started) (H : Type) (enc : TypeId × Value → H) :
    ReturnsInHanded {} Try.checked os 13 .any (Rows.dualCountsSpec.pre6 enc Try.prog Try.f13 [] false) (Rows.dualCountsSpec.post enc Try.prog Try.f13 false true false false) := by
  refine law_lifted (C := Try.checked) started ownT laidT (by kernel_rfl) Try.func13 (by kernel_rfl) rfl boolT rfl ?_
    (ChangeSpec.witness6 (enc := enc) (C := Try.checked) false ⟨#[], #[.int .u64 0, .int .u8 0, .int .u8 0, .int .u8 0], []⟩ 8 (by kernel_rfl) (by kernel_rfl) (by kernel_rfl) (by kernel_rfl)) ?_
  · intro ds hd
    match ds, hd with
    | [d1, d2, d3, d4], _ => exact ⟨rfl, rfl, rfl⟩
  · intro W args ds hc
    have ha := hc.split
    rw [show Try.f13.params.toList = [45, 5, 5, 5] from by kernel_rfl] at ha
    obtain ⟨v0, _, _, rfl, a0, ha⟩ := ha.next
    obtain ⟨v1, _, _, rfl, a1, ha⟩ := ha.next
    obtain ⟨v2, _, _, rfl, a2, ha⟩ := ha.next
    obtain ⟨v3, _, _, rfl, a3, ha⟩ := ha.next
    obtain rfl := ha.done
    obtain ⟨i0, rfl, r0⟩ := arg_u64 a0 u_u64
    obtain ⟨i1, rfl, r1⟩ := arg_u8 a1 u_u8
    obtain ⟨i2, rfl, r2⟩ := arg_u8 a2 u_u8
    obtain ⟨i3, rfl, r3⟩ := arg_u8 a3 u_u8
    obtain ⟨h, rfl⟩ : ∃ h : Nat, i0 = (h : Int) := ⟨i0.toNat, by rw [Int.toNat_of_nonneg r0.1]⟩
    exact dualCounts_c i1 i2 i3 (by have := r0.2; omega) r1 r2 r3 _
theorem dualCounts_holds : Rows.DualCountsSaid :=
  OpenClaim.holds_of_wide 13 Try.f13 rfl rfl rfl rfl rfl rfl rfl ⟨rfl, rfl, rfl, rfl, rfl⟩ rfl rfl rfl rfl rfl (by kernel_rfl) Try.func13 (by kernel_rfl)
    (of_decide_eq_true (by kernel_rfl)) (by unfold Func.isWrapper; first | (rw [if_pos (by decide +kernel)]; kernel_rfl) | (rw [if_neg (by decide +kernel)]; exact ⟨rfl, rfl⟩))
    (fun os started H enc _ => dualCounts_lifted os started H enc)
#print axioms dualCounts_holds
end Go.Proofs.Ytmogngagpphnhaa
