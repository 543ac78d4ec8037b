/- The law GcasSwaps holds: Swap makes the specified accesses, step by step, in states that result from operations, some of which are not finished; for every input, without condition. -/
import Derived.Test.YtbajmaoegmbfgaaGreatGOpen
import Derived.Test.YtbajmaoegmbfgaaGreatGLg4
set_option linter.unusedSimpArgs false
set_option linter.unusedVariables false
namespace Go.Proofs.YtbajmaoegmbfgaaGreat
open Go.RowKit Go.Ct Go.ChangeShapes Go.WideShapes Go.ChangeAt

set_option maxRecDepth 100000 in
theorem Cc (os : Os) (started : os.Started) (H : Type) (enc : TypeId × Value → H) :
    ReturnsInHanded {} Tryz.checked os 6 .any (Rows.gcasSwapsSpec.pre6 enc Tryz.prog Tryz.f6 [] false) (Rows.gcasSwapsSpec.post enc Tryz.prog Tryz.f6 false true false false) := by
  refine Rl (C := Tryz.checked) started aBV aAU (by kernel_rfl) Tryz.func6 (by kernel_rfl) rfl aBD rfl ?_
    (ChangeSpec.witness6 (enc := enc) (C := Tryz.checked) false ⟨#[], #[.slice none 0 0, .slice none 0 0], []⟩ 8 (by kernel_rfl) (by kernel_rfl) (by kernel_rfl) (by kernel_rfl)) ?_
  · intro ds hd
    match ds, hd with
    | [d1, d2], _ => exact ⟨rfl, rfl, rfl⟩
  · intro W args ds hc
    have ha := hc.split
    rw [show Tryz.f6.params.toList = [22, 22] from by kernel_rfl] at ha
    obtain ⟨v0, _, _, rfl, a0, ha⟩ := ha.next
    obtain ⟨v1, _, _, rfl, a1, ha⟩ := ha.next
    obtain rfl := ha.done
    obtain ⟨p0, l0, c0, rfl, hlc0, hc0, hcl0, hv0⟩ := Qa a0
    obtain ⟨p1, l1, c1, rfl, hlc1, hc1, hcl1, hv1⟩ := Qa a1
    exact Qq hcl0 (by omega) hcl1 (by omega)
theorem L8 : (Rows.gcasSwapsRow.inPlace == Tryz.prog.inPlace 6) = true := by kernel_rfl
theorem Lm : (Rows.gcasSwapsRow.unfollowed == Tryz.prog.unfollowed 6) = true := by kernel_rfl
theorem Lr : (Rows.gcasSwapsRow.recurses == Tryz.prog.recurses 6) = true := by kernel_rfl
theorem K1 : (Rows.gcasSwapsRow.named == Tryz.prog.varsNamed 6) = true := by kernel_rfl
theorem Lf : (Rows.gcasSwapsRow.lifted == Tryz.prog.liftsFinal) = true := Zw
theorem B3 : joinedFacts Tryz.prog 6 Tryz.f6 Rows.gcasSwapsSpec Rows.gcasSwapsRow = true := by
  unfold joinedFacts
  repeat' (with_reducible refine aB4 ?_ ?_)
  all_goals first | with_reducible exact ry | with_reducible exact nq | with_reducible exact fp | with_reducible exact yq | with_reducible exact Lf | with_reducible exact L8 | with_reducible exact Lm | with_reducible exact Lr | with_reducible exact K1 | kernel_rfl
theorem gcasSwaps_holds : Rows.GcasSwapsSaid :=
  OpenClaim.holds_of_wide 6 Tryz.f6 rfl rfl rfl rfl rfl rfl rfl ⟨rfl, rfl, rfl, rfl, rfl⟩ rfl rfl rfl rfl rfl (by kernel_rfl) Tryz.func6 B3
    (of_decide_eq_true (by kernel_rfl)) (by unfold Func.isWrapper; first | (rw [if_pos (by decide +kernel)]; kernel_rfl) | (rw [if_neg (by decide +kernel)]; exact ⟨rfl, rfl⟩))
    (fun os started H enc _ => Cc os started H enc)
#print axioms gcasSwaps_holds
end Go.Proofs.YtbajmaoegmbfgaaGreat
