/- The law GcasCosts holds: Read and Swap make at most ten accesses in any state that results from operations, and two and five if nothing is pending; for every input, without condition. -/
import Derived.Test.YtbajmaoegmbfgaaGreatGOpen
import Derived.Test.YtbajmaoegmbfgaaGreatLg7
set_option linter.unusedSimpArgs false
set_option linter.unusedVariables false
namespace Go.Proofs.YtbajmaoegmbfgaaGreat
open Go.RowKit Go.Ct Go.ChangeShapes Go.WideShapes Go.ChangeAt

set_option maxRecDepth 100000 in
theorem Be (os : Os) (started : os.Started) (H : Type) (enc : TypeId × Value → H) :
    ReturnsInHanded {} Tryz.checked os 5 .any (Rows.gcasCostsSpec.pre6 enc Tryz.prog Tryz.f5 [] false) (Rows.gcasCostsSpec.post enc Tryz.prog Tryz.f5 false true false false) := by
  refine Q1 (C := Tryz.checked) started aBv aAn (by kernel_rfl) Tryz.func5 (by kernel_rfl) rfl zu rfl ?_
    (ChangeSpec.witness6 (enc := enc) (C := Tryz.checked) false ⟨#[], #[.slice none 0 0, .slice none 0 0], []⟩ 8 (by kernel_rfl) (by kernel_rfl) (by kernel_rfl) (by kernel_rfl)) ?_
  · intro ds hd
    match ds, hd with
    | [d1, d2], _ => exact ⟨rfl, rfl, rfl⟩
  · intro W args ds hc
    have ha := hc.split
    rw [show Tryz.f5.params.toList = [22, 22] from by kernel_rfl] at ha
    obtain ⟨v0, _, _, rfl, a0, ha⟩ := ha.next
    obtain ⟨v1, _, _, rfl, a1, ha⟩ := ha.next
    obtain rfl := ha.done
    obtain ⟨p0, l0, c0, rfl, hlc0, hc0, hcl0, hv0⟩ := P6 a0
    obtain ⟨p1, l1, c1, rfl, hlc1, hc1, hcl1, hv1⟩ := P6 a1
    exact P1 hcl0 (by omega) hcl1 (by omega)
theorem Ko : (Rows.gcasCostsRow.inPlace == Tryz.prog.inPlace 5) = true := by kernel_rfl
theorem Mb : (Rows.gcasCostsRow.unfollowed == Tryz.prog.unfollowed 5) = true := by kernel_rfl
theorem Ma : (Rows.gcasCostsRow.recurses == Tryz.prog.recurses 5) = true := by kernel_rfl
theorem Ll : (Rows.gcasCostsRow.named == Tryz.prog.varsNamed 5) = true := by kernel_rfl
theorem Ly : (Rows.gcasCostsRow.lifted == Tryz.prog.liftsFinal) = true := bu
theorem A5 : joinedFacts Tryz.prog 5 Tryz.f5 Rows.gcasCostsSpec Rows.gcasCostsRow = true := by
  unfold joinedFacts
  repeat' (with_reducible refine aBH ?_ ?_)
  all_goals first | with_reducible exact qp | with_reducible exact n7 | with_reducible exact j3 | with_reducible exact yk | with_reducible exact Ly | with_reducible exact Ko | with_reducible exact Mb | with_reducible exact Ma | with_reducible exact Ll | kernel_rfl
theorem gcasCosts_holds : Rows.GcasCostsSaid :=
  OpenClaim.holds_of_wide 5 Tryz.f5 rfl rfl rfl rfl rfl rfl rfl ⟨rfl, rfl, rfl, rfl, rfl⟩ rfl rfl rfl rfl rfl (by kernel_rfl) Tryz.func5 A5
    (of_decide_eq_true (by kernel_rfl)) (by unfold Func.isWrapper; first | (rw [if_pos (by decide +kernel)]; kernel_rfl) | (rw [if_neg (by decide +kernel)]; exact ⟨rfl, rfl⟩))
    (fun os started H enc _ => Be os started H enc)
#print axioms gcasCosts_holds
end Go.Proofs.YtbajmaoegmbfgaaGreat
