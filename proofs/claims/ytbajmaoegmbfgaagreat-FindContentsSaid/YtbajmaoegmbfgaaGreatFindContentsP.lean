/- Merged. -/
import Derived.Test.YtbajmaoegmbfgaaGreatGOpen
import Derived.Test.YtbajmaoegmbfgaaGreatGFd4
set_option linter.unusedSimpArgs false
set_option linter.unusedVariables false
namespace Go.Proofs.YtbajmaoegmbfgaaGreat
open Go.Proofs.Tryz
open Go.RowKit Go.Ct Go.ChangeShapes Go.WideShapes Go.ChangeAt
set_option maxRecDepth 100000 in
theorem zD (os : Os) (started : os.Started) (H : Type) (enc : TypeId × Value → H) :
    ReturnsInHanded {} Tryz.checked os 16 .any (Rows.findContentsSpec.pre6 enc prog Tryz.f16 [] false) (Rows.findContentsSpec.post enc prog Tryz.f16 false true false false) := by
     refine Tl (C := Tryz.checked) started aEq aDS (by kernel_rfl) func16 (by kernel_rfl) rfl aC1 rfl ?_
       (ChangeSpec.witness6 (enc := enc) (C := Tryz.checked) false ⟨#[], #[.slice none 0 0, .slice none 0 0], []⟩ 8 (by kernel_rfl) (by kernel_rfl) (by kernel_rfl) (by kernel_rfl)) ?_
     ·intro ds hd;match ds, hd with
      | [d1, d2], _=> exact ⟨rfl, rfl, rfl⟩
     ·intro W args ds hc;have ha := hc.split;rw [show Tryz.f16.params.toList = [22, 22] from by kernel_rfl] at ha;obtain ⟨v0, _, _, rfl, a0, ha⟩ := ha.next;obtain ⟨v1, _, _, rfl, a1, ha⟩ := ha.next;obtain rfl := ha.done;obtain ⟨p0, l0, c0, rfl, hlc0, hc0, hcl0, hv0⟩ := Sn a0;obtain ⟨p1, l1, c1, rfl, hlc1, hc1, hcl1, hv1⟩ := Sn a1;exact Ir hcl0 (by omega) hcl1 (by omega)
theorem Fk : (Rows.findContentsRow.inPlace == prog.inPlace 16) = true := by kernel_rfl
theorem Fp : (Rows.findContentsRow.unfollowed == prog.unfollowed 16) = true := by kernel_rfl
theorem E5 : (Rows.findContentsRow.recurses == prog.recurses 16) = true := by kernel_rfl
theorem Fg : (Rows.findContentsRow.named == prog.varsNamed 16) = true := by kernel_rfl
theorem Fo : (Rows.findContentsRow.lifted == prog.liftsFinal) = true := oo
theorem yW : joinedFacts prog 16 Tryz.f16 Rows.findContentsSpec Rows.findContentsRow = true := by
 unfold joinedFacts;repeat' (with_reducible refine aEh ?_ ?_)
 all_goals first | with_reducible exact ur | with_reducible exact ug | with_reducible exact pu | with_reducible exact aBs | with_reducible exact Fo | with_reducible exact Fk | with_reducible exact Fp | with_reducible exact E5 | with_reducible exact Fg | kernel_rfl
theorem findContents_holds : Rows.FindContentsSaid :=
  OpenClaim.holds_of_wide 16 Tryz.f16 rfl rfl rfl rfl rfl rfl rfl ⟨rfl, rfl, rfl, rfl, rfl⟩ rfl rfl rfl rfl rfl (by kernel_rfl) func16 yW
    (of_decide_eq_true (by kernel_rfl)) (by unfold Func.isWrapper; first | (rw [if_pos (by decide +kernel)]; kernel_rfl) | (rw [if_neg (by decide +kernel)]; exact ⟨rfl, rfl⟩))
    (fun os started H enc _ => zD os started H enc)
#print axioms findContents_holds
end Go.Proofs.YtbajmaoegmbfgaaGreat
