/- The law RootCosts holds: Read makes at most 15 accesses and Swap at most 14 in any state that results from operations, and one and six if nothing is pending, and Read returns an I-node that was or is in the cell, or in its descriptor; for every input, without condition. -/
import Derived.Test.YtbajmaoegmbfgaaGreatGOpen
import Derived.Test.YtbajmaoegmbfgaaGreatLr8
set_option linter.unusedSimpArgs false
set_option linter.unusedVariables false
namespace Go.Proofs.YtbajmaoegmbfgaaGreat
open Go.RowKit Go.Ct Go.ChangeShapes Go.WideShapes Go.ChangeAt

set_option maxRecDepth 100000 in
theorem Cx (os : Os) (started : os.Started) (H : Type) (enc : TypeId × Value → H) :
    ReturnsInHanded {} Tryz.checked os 12 .any (Rows.rootCostsSpec.pre6 enc Tryz.prog Tryz.f12 [] false) (Rows.rootCostsSpec.post enc Tryz.prog Tryz.f12 false true false false) := by
  refine Sl (C := Tryz.checked) started aCw aBc (by kernel_rfl) Tryz.func12 (by kernel_rfl) rfl aBT rfl ?_
    (ChangeSpec.witness6 (enc := enc) (C := Tryz.checked) false ⟨#[], #[.slice none 0 0, .slice none 0 0], []⟩ 8 (by kernel_rfl) (by kernel_rfl) (by kernel_rfl) (by kernel_rfl)) ?_
  · intro ds hd
    match ds, hd with
    | [d1, d2], _ => exact ⟨rfl, rfl, rfl⟩
  · intro W args ds hc
    have ha := hc.split
    rw [show Tryz.f12.params.toList = [22, 22] from by kernel_rfl] at ha
    obtain ⟨v0, _, _, rfl, a0, ha⟩ := ha.next
    obtain ⟨v1, _, _, rfl, a1, ha⟩ := ha.next
    obtain rfl := ha.done
    obtain ⟨p0, l0, c0, rfl, hlc0, hc0, hcl0, hv0⟩ := Pe a0
    obtain ⟨p1, l1, c1, rfl, hlc1, hc1, hcl1, hv1⟩ := Pe a1
    exact Qo hcl0 (by omega) hcl1 (by omega)
theorem Ls : (Rows.rootCostsRow.inPlace == Tryz.prog.inPlace 12) = true := by kernel_rfl
theorem Lk : (Rows.rootCostsRow.unfollowed == Tryz.prog.unfollowed 12) = true := by kernel_rfl
theorem Ml : (Rows.rootCostsRow.recurses == Tryz.prog.recurses 12) = true := by kernel_rfl
theorem Mf : (Rows.rootCostsRow.named == Tryz.prog.varsNamed 12) = true := by kernel_rfl
theorem Mg : (Rows.rootCostsRow.lifted == Tryz.prog.liftsFinal) = true := mg
theorem Bx : joinedFacts Tryz.prog 12 Tryz.f12 Rows.rootCostsSpec Rows.rootCostsRow = true := by
  unfold joinedFacts
  repeat' (with_reducible refine aCj ?_ ?_)
  all_goals first | with_reducible exact n5 | with_reducible exact uu | with_reducible exact jz | with_reducible exact z6 | with_reducible exact Mg | with_reducible exact Ls | with_reducible exact Lk | with_reducible exact Ml | with_reducible exact Mf | kernel_rfl
theorem rootCosts_holds : Rows.RootCostsSaid :=
  OpenClaim.holds_of_wide 12 Tryz.f12 rfl rfl rfl rfl rfl rfl rfl ⟨rfl, rfl, rfl, rfl, rfl⟩ rfl rfl rfl rfl rfl (by kernel_rfl) Tryz.func12 Bx
    (of_decide_eq_true (by kernel_rfl)) (by unfold Func.isWrapper; first | (rw [if_pos (by decide +kernel)]; kernel_rfl) | (rw [if_neg (by decide +kernel)]; exact ⟨rfl, rfl⟩))
    (fun os started H enc _ => Cx os started H enc)
#print axioms rootCosts_holds
end Go.Proofs.YtbajmaoegmbfgaaGreat
