/- The law RootReads holds: Read makes the specified accesses, step by step, in states that result from operations, some of which are not finished; for every input, without condition. -/
import Derived.Test.YtbajmaoegmbfgaaGreatGOpen
import Derived.Test.YtbajmaoegmbfgaaGreatGLr2
set_option linter.unusedSimpArgs false
set_option linter.unusedVariables false
namespace Go.Proofs.YtbajmaoegmbfgaaGreat
open Go.RowKit Go.Ct Go.ChangeShapes Go.WideShapes Go.ChangeAt

set_option maxRecDepth 100000 in
theorem B8 (os : Os) (started : os.Started) (H : Type) (enc : TypeId × Value → H) :
    ReturnsInHanded {} Tryz.checked os 13 .any (Rows.rootReadsSpec.pre6 enc Tryz.prog Tryz.f13 [] false) (Rows.rootReadsSpec.post enc Tryz.prog Tryz.f13 false true false false) := by
  refine Sa (C := Tryz.checked) started aAJ yi (by kernel_rfl) Tryz.func13 (by kernel_rfl) rfl xu rfl ?_
    (ChangeSpec.witness6 (enc := enc) (C := Tryz.checked) false ⟨#[], #[.slice none 0 0, .slice none 0 0], []⟩ 8 (by kernel_rfl) (by kernel_rfl) (by kernel_rfl) (by kernel_rfl)) ?_
  · intro ds hd
    match ds, hd with
    | [d1, d2], _ => exact ⟨rfl, rfl, rfl⟩
  · intro W args ds hc
    have ha := hc.split
    rw [show Tryz.f13.params.toList = [22, 22] from by kernel_rfl] at ha
    obtain ⟨v0, _, _, rfl, a0, ha⟩ := ha.next
    obtain ⟨v1, _, _, rfl, a1, ha⟩ := ha.next
    obtain rfl := ha.done
    obtain ⟨p0, l0, c0, rfl, hlc0, hc0, hcl0, hv0⟩ := Mz a0
    obtain ⟨p1, l1, c1, rfl, hlc1, hc1, hcl1, hv1⟩ := Mz a1
    exact M8 hcl0 (by omega) hcl1 (by omega)
theorem Lz : (Rows.rootReadsRow.inPlace == Tryz.prog.inPlace 13) = true := by kernel_rfl
theorem K3 : (Rows.rootReadsRow.unfollowed == Tryz.prog.unfollowed 13) = true := by kernel_rfl
theorem K0 : (Rows.rootReadsRow.recurses == Tryz.prog.recurses 13) = true := by kernel_rfl
theorem Ky : (Rows.rootReadsRow.named == Tryz.prog.varsNamed 13) = true := by kernel_rfl
theorem Lw : (Rows.rootReadsRow.lifted == Tryz.prog.liftsFinal) = true := Z2
theorem Bp : joinedFacts Tryz.prog 13 Tryz.f13 Rows.rootReadsSpec Rows.rootReadsRow = true := by
  unfold joinedFacts
  repeat' (with_reducible refine aAw ?_ ?_)
  all_goals first | with_reducible exact nh | with_reducible exact m7 | with_reducible exact fh | with_reducible exact tq | with_reducible exact Lw | with_reducible exact Lz | with_reducible exact K3 | with_reducible exact K0 | with_reducible exact Ky | kernel_rfl
theorem rootReads_holds : Rows.RootReadsSaid :=
  OpenClaim.holds_of_wide 13 Tryz.f13 rfl rfl rfl rfl rfl rfl rfl ⟨rfl, rfl, rfl, rfl, rfl⟩ rfl rfl rfl rfl rfl (by kernel_rfl) Tryz.func13 Bp
    (of_decide_eq_true (by kernel_rfl)) (by unfold Func.isWrapper; first | (rw [if_pos (by decide +kernel)]; kernel_rfl) | (rw [if_neg (by decide +kernel)]; exact ⟨rfl, rfl⟩))
    (fun os started H enc _ => B8 os started H enc)
#print axioms rootReads_holds
end Go.Proofs.YtbajmaoegmbfgaaGreat
