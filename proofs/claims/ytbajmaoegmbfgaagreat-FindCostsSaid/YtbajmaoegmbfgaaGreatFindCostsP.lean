/- Merged. -/
import Derived.Test.YtbajmaoegmbfgaaGreatGOpen
import Derived.Test.YtbajmaoegmbfgaaGreatGFd3
set_option linter.unusedSimpArgs false
set_option linter.unusedVariables false
namespace Go.Proofs.YtbajmaoegmbfgaaGreat
open Go.Proofs.Tryz
open Go.RowKit Go.Ct Go.ChangeShapes Go.WideShapes Go.ChangeAt
set_option maxRecDepth 100000 in
theorem Df (os : Os) (started : os.Started) (H : Type) (enc : TypeId × Value → H) :
    ReturnsInHanded {} Tryz.checked os 15 .any (Rows.findCostsSpec.pre6 enc prog Tryz.f15 [] false) (Rows.findCostsSpec.post enc prog Tryz.f15 false true false false) := by
     refine Ua (C := Tryz.checked) started aEi aCp (by kernel_rfl) func15 (by kernel_rfl) rfl aDI rfl ?_
       (ChangeSpec.witness6 (enc := enc) (C := Tryz.checked) false ⟨#[], #[.slice none 0 0, .slice none 0 0], []⟩ 8 (by kernel_rfl) (by kernel_rfl) (by kernel_rfl) (by kernel_rfl)) ?_
     ·intro ds hd;match ds, hd with
      | [d1, d2], _=> exact ⟨rfl, rfl, rfl⟩
     ·intro W args ds hc;have ha := hc.split;rw [show Tryz.f15.params.toList = [22, 22] from by kernel_rfl] at ha;obtain ⟨v0, _, _, rfl, a0, ha⟩ := ha.next;obtain ⟨v1, _, _, rfl, a1, ha⟩ := ha.next;obtain rfl := ha.done;obtain ⟨p0, l0, c0, rfl, hlc0, hc0, hcl0, hv0⟩ := Pu a0;obtain ⟨p1, l1, c1, rfl, hlc1, hc1, hcl1, hv1⟩ := Pu a1;exact Rj hcl0 (by omega) hcl1 (by omega)
theorem Oi : (Rows.findCostsRow.inPlace == prog.inPlace 15) = true := by kernel_rfl
theorem Mw : (Rows.findCostsRow.unfollowed == prog.unfollowed 15) = true := by kernel_rfl
theorem Na : (Rows.findCostsRow.recurses == prog.recurses 15) = true := by kernel_rfl
theorem Nb : (Rows.findCostsRow.named == prog.varsNamed 15) = true := by kernel_rfl
theorem Nq : (Rows.findCostsRow.lifted == prog.liftsFinal) = true := jr
theorem C7 : joinedFacts prog 15 Tryz.f15 Rows.findCostsSpec Rows.findCostsRow = true := by
 unfold joinedFacts;repeat' (with_reducible refine aEC ?_ ?_)
 all_goals first | with_reducible exact y6 | with_reducible exact xv | with_reducible exact ef | with_reducible exact aAI | with_reducible exact Nq | with_reducible exact Oi | with_reducible exact Mw | with_reducible exact Na | with_reducible exact Nb | kernel_rfl
theorem findCosts_holds : Rows.FindCostsSaid :=
  OpenClaim.holds_of_wide 15 Tryz.f15 rfl rfl rfl rfl rfl rfl rfl ⟨rfl, rfl, rfl, rfl, rfl⟩ rfl rfl rfl rfl rfl (by kernel_rfl) func15 C7
    (of_decide_eq_true (by kernel_rfl)) (by unfold Func.isWrapper; first | (rw [if_pos (by decide +kernel)]; kernel_rfl) | (rw [if_neg (by decide +kernel)]; exact ⟨rfl, rfl⟩))
    (fun os started H enc _ => Df os started H enc)
#print axioms findCosts_holds
end Go.Proofs.YtbajmaoegmbfgaaGreat
