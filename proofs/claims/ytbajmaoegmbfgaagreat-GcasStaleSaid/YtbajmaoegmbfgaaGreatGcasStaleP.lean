/- Merged. -/
import Derived.Test.YtbajmaoegmbfgaaGreatGOpen
import Derived.Test.YtbajmaoegmbfgaaGreatLg9
set_option linter.unusedSimpArgs false
set_option linter.unusedVariables false
namespace Go.Proofs.YtbajmaoegmbfgaaGreat
open Go.Proofs.Tryz (prog)
open Go.RowKit Go.Ct Go.ChangeShapes Go.WideShapes Go.ChangeAt
set_option maxRecDepth 100000 in
theorem Bn (os : Os) (started : os.Started) (H : Type) (enc : TypeId × Value → H) :
    ReturnsInHanded {} Tryz.checked os 3 .any (Rows.gcasStaleSpec.pre6 enc prog Tryz.f3 [] false) (Rows.gcasStaleSpec.post enc prog Tryz.f3 false true false false) := by
  refine Us (C := Tryz.checked) started aCw aA2 (by kernel_rfl) Tryz.func3 (by kernel_rfl) rfl aBv rfl ?_
    (ChangeSpec.witness6 (enc := enc) (C := Tryz.checked) false ⟨#[], #[.slice none 0 0, .slice none 0 0], []⟩ 8 (by kernel_rfl) (by kernel_rfl) (by kernel_rfl) (by kernel_rfl)) ?_
  · intro ds hd
    match ds, hd with
    | [d1, d2], _ => exact ⟨rfl, rfl, rfl⟩
  · intro W args ds hc
    have ha := hc.split
    rw [show Tryz.f3.params.toList = [22, 22] from by kernel_rfl] at ha
    obtain ⟨v0, _, _, rfl, a0, ha⟩ := ha.next
    obtain ⟨v1, _, _, rfl, a1, ha⟩ := ha.next
    obtain rfl := ha.done
    obtain ⟨p0, l0, c0, rfl, hlc0, hc0, hcl0, hv0⟩ := O0 a0
    obtain ⟨p1, l1, c1, rfl, hlc1, hc1, hcl1, hv1⟩ := O0 a1
    exact Qx hcl0 (by omega) hcl1 (by omega)
theorem K9 : (Rows.gcasStaleRow.inPlace == prog.inPlace 3) = true := by kernel_rfl
theorem Ln : (Rows.gcasStaleRow.unfollowed == prog.unfollowed 3) = true := by kernel_rfl
theorem M9 : (Rows.gcasStaleRow.recurses == prog.recurses 3) = true := by kernel_rfl
theorem Mi : (Rows.gcasStaleRow.named == prog.varsNamed 3) = true := by kernel_rfl
theorem M6 : (Rows.gcasStaleRow.lifted == prog.liftsFinal) = true := cw
theorem By : joinedFacts prog 3 Tryz.f3 Rows.gcasStaleSpec Rows.gcasStaleRow = true := by
  unfold joinedFacts
  repeat' (with_reducible refine aCK ?_ ?_)
  all_goals first | with_reducible exact o5 | with_reducible exact uq | with_reducible exact dz | with_reducible exact aAa | with_reducible exact M6 | with_reducible exact K9 | with_reducible exact Ln | with_reducible exact M9 | with_reducible exact Mi | kernel_rfl
theorem gcasStale_holds : Rows.GcasStaleSaid :=
  OpenClaim.holds_of_wide 3 Tryz.f3 rfl rfl rfl rfl rfl rfl rfl ⟨rfl, rfl, rfl, rfl, rfl⟩ rfl rfl rfl rfl rfl (by kernel_rfl) Tryz.func3 By
    (of_decide_eq_true (by kernel_rfl)) (by unfold Func.isWrapper; first | (rw [if_pos (by decide +kernel)]; kernel_rfl) | (rw [if_neg (by decide +kernel)]; exact ⟨rfl, rfl⟩))
    (fun os started H enc _ => Bn os started H enc)
#print axioms gcasStale_holds
end Go.Proofs.YtbajmaoegmbfgaaGreat
