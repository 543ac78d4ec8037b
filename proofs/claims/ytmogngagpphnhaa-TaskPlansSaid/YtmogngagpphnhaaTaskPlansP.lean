/- The law TaskPlans holds: the task of a plan shows and makes one access of the plan in each step, and has the specified result; for every input, without condition. -/
import Derived.Test.YtmogngagpphnhaaOpen6
import Derived.Test.YtmogngagpphnhaaTw5
set_option linter.unusedSimpArgs false
set_option linter.unusedVariables false
namespace Go.Proofs.Ytmogngagpphnhaa
open Go.RowKit Go.Ct Go.ChangeShapes Go.WideShapes Go.ChangeAt

set_option maxRecDepth 100000 in
theorem taskPlans_lifted (os : Os) (started : os.Started) (H : Type) (enc : TypeId × Value → H) :
    ReturnsInHanded {} Try.checked os 12 .any (Rows.taskPlansSpec.pre6 enc Try.prog Try.f12 [] false) (Rows.taskPlansSpec.post enc Try.prog Try.f12 false true false false) := by
  refine law_lifted (C := Try.checked) started ownT laidT (by kernel_rfl) Try.func12 (by kernel_rfl) rfl boolT rfl ?_
    (ChangeSpec.witness6 (enc := enc) (C := Try.checked) false ⟨#[], #[.slice none 0 0, .slice none 0 0, .slice none 0 0], []⟩ 8 (by kernel_rfl) (by kernel_rfl) (by kernel_rfl) (by kernel_rfl)) ?_
  · intro ds hd
    match ds, hd with
    | [d1, d2, d3], _ => exact ⟨rfl, rfl, rfl⟩
  · intro W args ds hc
    have ha := hc.split
    rw [show Try.f12.params.toList = [22, 22, 94] from by kernel_rfl] at ha
    obtain ⟨v0, _, _, rfl, a0, ha⟩ := ha.next
    obtain ⟨v1, _, _, rfl, a1, ha⟩ := ha.next
    obtain ⟨v2, _, _, rfl, a2, ha⟩ := ha.next
    obtain rfl := ha.done
    obtain ⟨p0, l0, c0, rfl, hlc0, hc0, hcl0, hv0⟩ := arg_ints a0
    obtain ⟨p1, l1, c1, rfl, hlc1, hc1, hcl1, hv1⟩ := arg_ints a1
    obtain ⟨p2, l2, c2, rfl, hl2, hcl2, hok2⟩ := arg_acs a2
    exact taskPlans_c hcl0 (by omega) hcl1 (by omega) hcl2 hl2 hok2
theorem taskPlans_holds : Rows.TaskPlansSaid :=
  OpenClaim.holds_of_wide 12 Try.f12 rfl rfl rfl rfl rfl rfl rfl ⟨rfl, rfl, rfl, rfl, rfl⟩ rfl rfl rfl rfl rfl (by kernel_rfl) Try.func12 (by kernel_rfl)
    (of_decide_eq_true (by kernel_rfl)) (by unfold Func.isWrapper; first | (rw [if_pos (by decide +kernel)]; kernel_rfl) | (rw [if_neg (by decide +kernel)]; exact ⟨rfl, rfl⟩))
    (fun os started H enc _ => taskPlans_lifted os started H enc)
#print axioms taskPlans_holds
end Go.Proofs.Ytmogngagpphnhaa
