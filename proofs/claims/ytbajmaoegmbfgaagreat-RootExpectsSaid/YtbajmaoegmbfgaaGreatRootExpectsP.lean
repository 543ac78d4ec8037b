/- The law RootExpects holds: a Swap with another expected main node than the root's fails in a quiet trie, and leaves the old root; for every input, without condition. -/
import Derived.Test.YtbajmaoegmbfgaaGreatGOpen
import Derived.Test.YtbajmaoegmbfgaaGreatGRg3
set_option linter.unusedSimpArgs false
set_option linter.unusedVariables false
namespace Go.Proofs.YtbajmaoegmbfgaaGreat
open Go.RowKit Go.Ct Go.ChangeShapes Go.WideShapes Go.ChangeAt

set_option maxRecDepth 100000 in
theorem yY (os : Os) (started : os.Started) (H : Type) (enc : TypeId × Value → H) :
    ReturnsInHanded {} Tryz.checked os 7 .any (Rows.rootExpectsSpec.pre6 enc Tryz.prog Tryz.f7 [] false) (Rows.rootExpectsSpec.post enc Tryz.prog Tryz.f7 false true false false) := by
  refine Qg (C := Tryz.checked) started aB1 z6 (by kernel_rfl) Tryz.func7 (by kernel_rfl) rfl aBe rfl ?_
    (ChangeSpec.witness6 (enc := enc) (C := Tryz.checked) false ⟨#[], #[.slice none 0 0, .slice none 0 0, .int .i64 0], []⟩ 8 (by kernel_rfl) (by kernel_rfl) (by kernel_rfl) (by kernel_rfl)) ?_
  · intro ds hd
    match ds, hd with
    | [d1, d2, d3], _ => exact ⟨rfl, rfl, rfl⟩
  · intro W args ds hc
    have ha := hc.split
    rw [show Tryz.f7.params.toList = [22, 22, 3] from by kernel_rfl] at ha
    obtain ⟨v0, _, _, rfl, a0, ha⟩ := ha.next
    obtain ⟨v1, _, _, rfl, a1, ha⟩ := ha.next
    obtain ⟨v2, _, _, rfl, a2, ha⟩ := ha.next
    obtain rfl := ha.done
    obtain ⟨p0, l0, c0, rfl, hlc0, hc0, hcl0, hv0⟩ := Pa a0
    obtain ⟨p1, l1, c1, rfl, hlc1, hc1, hcl1, hv1⟩ := Pa a1
    obtain ⟨i2, rfl, r2⟩ := nq a2 ud
    exact Hv hcl0 (by omega) hcl1 (by omega)
theorem F4 : (Rows.rootExpectsRow.inPlace == Tryz.prog.inPlace 7) = true := by kernel_rfl
theorem Ef : (Rows.rootExpectsRow.unfollowed == Tryz.prog.unfollowed 7) = true := by kernel_rfl
theorem Hr : (Rows.rootExpectsRow.recurses == Tryz.prog.recurses 7) = true := by kernel_rfl
theorem Fq : (Rows.rootExpectsRow.named == Tryz.prog.varsNamed 7) = true := by kernel_rfl
theorem G5 : (Rows.rootExpectsRow.lifted == Tryz.prog.liftsFinal) = true := X6
theorem zF : joinedFacts Tryz.prog 7 Tryz.f7 Rows.rootExpectsSpec Rows.rootExpectsRow = true := by
  unfold joinedFacts
  repeat' (with_reducible refine aBS ?_ ?_)
  all_goals first | with_reducible exact og | with_reducible exact nf | with_reducible exact Zw | with_reducible exact wj | with_reducible exact G5 | with_reducible exact F4 | with_reducible exact Ef | with_reducible exact Hr | with_reducible exact Fq | kernel_rfl
theorem rootExpects_holds : Rows.RootExpectsSaid :=
  OpenClaim.holds_of_wide 7 Tryz.f7 rfl rfl rfl rfl rfl rfl rfl ⟨rfl, rfl, rfl, rfl, rfl⟩ rfl rfl rfl rfl rfl (by kernel_rfl) Tryz.func7 zF
    (of_decide_eq_true (by kernel_rfl)) (by unfold Func.isWrapper; first | (rw [if_pos (by decide +kernel)]; kernel_rfl) | (rw [if_neg (by decide +kernel)]; exact ⟨rfl, rfl⟩))
    (fun os started H enc _ => yY os started H enc)
#print axioms rootExpects_holds
end Go.Proofs.YtbajmaoegmbfgaaGreat
