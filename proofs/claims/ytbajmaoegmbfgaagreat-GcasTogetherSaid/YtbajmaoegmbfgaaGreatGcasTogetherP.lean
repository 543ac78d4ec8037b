/- The law GcasTogether holds: two Swaps and a Read of one I-node whose steps are interleaved make the specified accesses; for every input, without condition. -/
import Derived.Test.YtbajmaoegmbfgaaGreatGOpen
import Derived.Test.YtbajmaoegmbfgaaGreatGLg4
set_option linter.unusedSimpArgs false
set_option linter.unusedVariables false
namespace Go.Proofs.YtbajmaoegmbfgaaGreat
open Go.RowKit Go.Ct Go.ChangeShapes Go.WideShapes Go.ChangeAt

set_option maxRecDepth 100000 in
theorem yA (os : Os) (started : os.Started) (H : Type) (enc : TypeId × Value → H) :
    ReturnsInHanded {} Tryz.checked os 9 .any (Rows.gcasTogetherSpec.pre6 enc Tryz.prog Tryz.f9 [] false) (Rows.gcasTogetherSpec.post enc Tryz.prog Tryz.f9 false true false false) := by
  refine Uf (C := Tryz.checked) started aB7 aAI (by kernel_rfl) Tryz.func9 (by kernel_rfl) rfl aBx rfl ?_
    (ChangeSpec.witness6 (enc := enc) (C := Tryz.checked) false ⟨#[], #[.slice none 0 0, .slice none 0 0, .slice none 0 0], []⟩ 8 (by kernel_rfl) (by kernel_rfl) (by kernel_rfl) (by kernel_rfl)) ?_
  · intro ds hd
    match ds, hd with
    | [d1, d2, d3], _ => exact ⟨rfl, rfl, rfl⟩
  · intro W args ds hc
    have ha := hc.split
    rw [show Tryz.f9.params.toList = [22, 22, 22] from by kernel_rfl] at ha
    obtain ⟨v0, _, _, rfl, a0, ha⟩ := ha.next
    obtain ⟨v1, _, _, rfl, a1, ha⟩ := ha.next
    obtain ⟨v2, _, _, rfl, a2, ha⟩ := ha.next
    obtain rfl := ha.done
    obtain ⟨p0, l0, c0, rfl, hlc0, hc0, hcl0, hv0⟩ := Fj a0
    obtain ⟨p1, l1, c1, rfl, hlc1, hc1, hcl1, hv1⟩ := Fj a1
    obtain ⟨p2, l2, c2, rfl, hlc2, hc2, hcl2, hv2⟩ := Fj a2
    exact Hw hcl0 (by omega) hcl1 (by omega) hcl2 (by omega)
theorem D5 : (Rows.gcasTogetherRow.inPlace == Tryz.prog.inPlace 9) = true := by kernel_rfl
theorem D3 : (Rows.gcasTogetherRow.unfollowed == Tryz.prog.unfollowed 9) = true := by kernel_rfl
theorem D2 : (Rows.gcasTogetherRow.recurses == Tryz.prog.recurses 9) = true := by kernel_rfl
theorem Eb : (Rows.gcasTogetherRow.named == Tryz.prog.varsNamed 9) = true := by kernel_rfl
theorem Eg : (Rows.gcasTogetherRow.lifted == Tryz.prog.liftsFinal) = true := kv
theorem yB : joinedFacts Tryz.prog 9 Tryz.f9 Rows.gcasTogetherSpec Rows.gcasTogetherRow = true := by
  unfold joinedFacts
  repeat' (with_reducible refine aCb ?_ ?_)
  all_goals first | with_reducible exact q8 | with_reducible exact qw | with_reducible exact jh | with_reducible exact zh | with_reducible exact Eg | with_reducible exact D5 | with_reducible exact D3 | with_reducible exact D2 | with_reducible exact Eb | kernel_rfl
theorem gcasTogether_holds : Rows.GcasTogetherSaid :=
  OpenClaim.holds_of_wide 9 Tryz.f9 rfl rfl rfl rfl rfl rfl rfl ⟨rfl, rfl, rfl, rfl, rfl⟩ rfl rfl rfl rfl rfl (by kernel_rfl) Tryz.func9 yB
    (of_decide_eq_true (by kernel_rfl)) (by unfold Func.isWrapper; first | (rw [if_pos (by decide +kernel)]; kernel_rfl) | (rw [if_neg (by decide +kernel)]; exact ⟨rfl, rfl⟩))
    (fun os started H enc _ => yA os started H enc)
#print axioms gcasTogether_holds
end Go.Proofs.YtbajmaoegmbfgaaGreat
