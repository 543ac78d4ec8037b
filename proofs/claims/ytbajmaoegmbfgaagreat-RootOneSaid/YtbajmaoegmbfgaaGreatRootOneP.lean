/- Merged. -/
import Derived.Test.YtbajmaoegmbfgaaGreatGOpen
import Derived.Test.YtbajmaoegmbfgaaGreatLr10
set_option linter.unusedSimpArgs false
set_option linter.unusedVariables false
namespace Go.Proofs.YtbajmaoegmbfgaaGreat
open Go.Proofs.Tryz (prog)
open Go.RowKit Go.Ct Go.ChangeShapes Go.WideShapes Go.ChangeAt
set_option maxRecDepth 100000 in
theorem Ge (os : Os) (started : os.Started) (H : Type) (enc : TypeId × Value → H) :
    ReturnsInHanded {} Tryz.checked os 11 .any (Rows.rootOneSpec.pre6 enc prog Tryz.f11 [] false) (Rows.rootOneSpec.post enc prog Tryz.f11 false true false false) := by
  refine Sw (C := Tryz.checked) started aCF aBo (by kernel_rfl) Tryz.func11 (by kernel_rfl) rfl aB1 rfl ?_
    (ChangeSpec.witness6 (enc := enc) (C := Tryz.checked) false ⟨#[], #[.slice none 0 0, .slice none 0 0, .slice none 0 0], []⟩ 8 (by kernel_rfl) (by kernel_rfl) (by kernel_rfl) (by kernel_rfl)) ?_
  · intro ds hd
    match ds, hd with
    | [d1, d2, d3], _ => exact ⟨rfl, rfl, rfl⟩
  · intro W args ds hc
    have ha := hc.split
    rw [show Tryz.f11.params.toList = [22, 22, 22] from by kernel_rfl] at ha
    obtain ⟨v0, _, _, rfl, a0, ha⟩ := ha.next
    obtain ⟨v1, _, _, rfl, a1, ha⟩ := ha.next
    obtain ⟨v2, _, _, rfl, a2, ha⟩ := ha.next
    obtain rfl := ha.done
    obtain ⟨p0, l0, c0, rfl, hlc0, hc0, hcl0, hv0⟩ := Ey a0
    obtain ⟨p1, l1, c1, rfl, hlc1, hc1, hcl1, hv1⟩ := Ey a1
    obtain ⟨p2, l2, c2, rfl, hlc2, hc2, hcl2, hv2⟩ := Ey a2
    exact X3 hcl0 (by omega) hcl1 (by omega) hcl2 (by omega)
theorem Sj : (Rows.rootOneRow.inPlace == prog.inPlace 11) = true := by kernel_rfl
theorem Ry : (Rows.rootOneRow.unfollowed == prog.unfollowed 11) = true := by kernel_rfl
theorem Q2 : (Rows.rootOneRow.recurses == prog.recurses 11) = true := by kernel_rfl
theorem Q1 : (Rows.rootOneRow.named == prog.varsNamed 11) = true := by kernel_rfl
theorem Rj : (Rows.rootOneRow.lifted == prog.liftsFinal) = true := lj
theorem Hb : joinedFacts prog 11 Tryz.f11 Rows.rootOneSpec Rows.rootOneRow = true := by
  unfold joinedFacts
  repeat' (with_reducible refine aCO ?_ ?_)
  all_goals first | with_reducible exact uk | with_reducible exact n9 | with_reducible exact fg | with_reducible exact aAe | with_reducible exact Rj | with_reducible exact Sj | with_reducible exact Ry | with_reducible exact Q2 | with_reducible exact Q1 | kernel_rfl
theorem rootOne_holds : Rows.RootOneSaid :=
  OpenClaim.holds_of_wide 11 Tryz.f11 rfl rfl rfl rfl rfl rfl rfl ⟨rfl, rfl, rfl, rfl, rfl⟩ rfl rfl rfl rfl rfl (by kernel_rfl) Tryz.func11 Hb
    (of_decide_eq_true (by kernel_rfl)) (by unfold Func.isWrapper; first | (rw [if_pos (by decide +kernel)]; kernel_rfl) | (rw [if_neg (by decide +kernel)]; exact ⟨rfl, rfl⟩))
    (fun os started H enc _ => Ge os started H enc)
#print axioms rootOne_holds
end Go.Proofs.YtbajmaoegmbfgaaGreat
