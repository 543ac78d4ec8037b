/- The law RootSwaps holds: Swap makes the specified accesses, step by step, in states that result from operations, some of which are not finished, with the main node that the root has as the expected one, or another one; for every input, without condition. -/
import Derived.Test.YtbajmaoegmbfgaaGreatGOpen
import Derived.Test.YtbajmaoegmbfgaaGreatGLe1
set_option linter.unusedSimpArgs false
set_option linter.unusedVariables false
namespace Go.Proofs.YtbajmaoegmbfgaaGreat
open Go.RowKit Go.Ct Go.ChangeShapes Go.WideShapes Go.ChangeAt

set_option maxRecDepth 100000 in
theorem Bd (os : Os) (started : os.Started) (H : Type) (enc : TypeId × Value → H) :
    ReturnsInHanded {} Tryz.checked os 10 .any (Rows.rootSwapsSpec.pre6 enc Tryz.prog Tryz.f10 [] false) (Rows.rootSwapsSpec.post enc Tryz.prog Tryz.f10 false true false false) := by
  refine Rn (C := Tryz.checked) started aA3 aAU (by kernel_rfl) Tryz.func10 (by kernel_rfl) rfl rn rfl ?_
    (ChangeSpec.witness6 (enc := enc) (C := Tryz.checked) false ⟨#[], #[.slice none 0 0, .slice none 0 0, .bool false], []⟩ 8 (by kernel_rfl) (by kernel_rfl) (by kernel_rfl) (by kernel_rfl)) ?_
  · intro ds hd
    match ds, hd with
    | [d1, d2, d3], _ => exact ⟨rfl, rfl, rfl⟩
  · intro W args ds hc
    have ha := hc.split
    rw [show Tryz.f10.params.toList = [22, 22, 4] from by kernel_rfl] at ha
    obtain ⟨v0, _, _, rfl, a0, ha⟩ := ha.next
    obtain ⟨v1, _, _, rfl, a1, ha⟩ := ha.next
    obtain ⟨v2, _, _, rfl, a2, ha⟩ := ha.next
    obtain rfl := ha.done
    obtain ⟨p0, l0, c0, rfl, hlc0, hc0, hcl0, hv0⟩ := Mp a0
    obtain ⟨p1, l1, c1, rfl, hlc1, hc1, hcl1, hv1⟩ := Mp a1
    obtain ⟨b2, rfl⟩ := a2.bool rn
    exact Pa hcl0 (by omega) hcl1 (by omega)
theorem L7 : (Rows.rootSwapsRow.inPlace == Tryz.prog.inPlace 10) = true := by kernel_rfl
theorem Ki : (Rows.rootSwapsRow.unfollowed == Tryz.prog.unfollowed 10) = true := by kernel_rfl
theorem Kg : (Rows.rootSwapsRow.recurses == Tryz.prog.recurses 10) = true := by kernel_rfl
theorem Lz : (Rows.rootSwapsRow.named == Tryz.prog.varsNamed 10) = true := by kernel_rfl
theorem K5 : (Rows.rootSwapsRow.lifted == Tryz.prog.liftsFinal) = true := dm
theorem Be : joinedFacts Tryz.prog 10 Tryz.f10 Rows.rootSwapsSpec Rows.rootSwapsRow = true := by
  unfold joinedFacts
  repeat' (with_reducible refine aBa ?_ ?_)
  all_goals first | with_reducible exact ld | with_reducible exact mw | with_reducible exact bf | with_reducible exact xa | with_reducible exact K5 | with_reducible exact L7 | with_reducible exact Ki | with_reducible exact Kg | with_reducible exact Lz | kernel_rfl
theorem rootSwaps_holds : Rows.RootSwapsSaid :=
  OpenClaim.holds_of_wide 10 Tryz.f10 rfl rfl rfl rfl rfl rfl rfl ⟨rfl, rfl, rfl, rfl, rfl⟩ rfl rfl rfl rfl rfl (by kernel_rfl) Tryz.func10 Be
    (of_decide_eq_true (by kernel_rfl)) (by unfold Func.isWrapper; first | (rw [if_pos (by decide +kernel)]; kernel_rfl) | (rw [if_neg (by decide +kernel)]; exact ⟨rfl, rfl⟩))
    (fun os started H enc _ => Bd os started H enc)
#print axioms rootSwaps_holds
end Go.Proofs.YtbajmaoegmbfgaaGreat
