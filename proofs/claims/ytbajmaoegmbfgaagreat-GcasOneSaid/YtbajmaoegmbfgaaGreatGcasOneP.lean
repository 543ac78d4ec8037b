/- Merged. -/
import Derived.Test.YtbajmaoegmbfgaaGreatGOpen
import Derived.Test.YtbajmaoegmbfgaaGreatLg8
set_option linter.unusedSimpArgs false
set_option linter.unusedVariables false
namespace Go.Proofs.YtbajmaoegmbfgaaGreat
open Go.Proofs.Tryz (prog)
open Go.RowKit Go.Ct Go.ChangeShapes Go.WideShapes Go.ChangeAt
set_option maxRecDepth 100000 in
theorem Ij (os : Os) (started : os.Started) (H : Type) (enc : TypeId × Value → H) :
    ReturnsInHanded {} Tryz.checked os 4 .any (Rows.gcasOneSpec.pre6 enc prog Tryz.f4 [] false) (Rows.gcasOneSpec.post enc prog Tryz.f4 false true false false) := by
  refine Sk (C := Tryz.checked) started aCH aCk (by kernel_rfl) Tryz.func4 (by kernel_rfl) rfl aBi rfl ?_
    (ChangeSpec.witness6 (enc := enc) (C := Tryz.checked) false ⟨#[], #[.slice none 0 0, .slice none 0 0, .slice none 0 0], []⟩ 8 (by kernel_rfl) (by kernel_rfl) (by kernel_rfl) (by kernel_rfl)) ?_
  · intro ds hd
    match ds, hd with
    | [d1, d2, d3], _ => exact ⟨rfl, rfl, rfl⟩
  · intro W args ds hc
    have ha := hc.split
    rw [show Tryz.f4.params.toList = [22, 22, 22] from by kernel_rfl] at ha
    obtain ⟨v0, _, _, rfl, a0, ha⟩ := ha.next
    obtain ⟨v1, _, _, rfl, a1, ha⟩ := ha.next
    obtain ⟨v2, _, _, rfl, a2, ha⟩ := ha.next
    obtain rfl := ha.done
    obtain ⟨p0, l0, c0, rfl, hlc0, hc0, hcl0, hv0⟩ := Ic a0
    obtain ⟨p1, l1, c1, rfl, hlc1, hc1, hcl1, hv1⟩ := Ic a1
    obtain ⟨p2, l2, c2, rfl, hlc2, hc2, hcl2, hv2⟩ := Ic a2
    exact Xz hcl0 (by omega) hcl1 (by omega) hcl2 (by omega)
theorem T8 : (Rows.gcasOneRow.inPlace == prog.inPlace 4) = true := by kernel_rfl
theorem Sh : (Rows.gcasOneRow.unfollowed == prog.unfollowed 4) = true := by kernel_rfl
theorem T5 : (Rows.gcasOneRow.recurses == prog.recurses 4) = true := by kernel_rfl
theorem Tb : (Rows.gcasOneRow.named == prog.varsNamed 4) = true := by kernel_rfl
theorem Sn : (Rows.gcasOneRow.lifted == prog.liftsFinal) = true := lj
theorem Gl : joinedFacts prog 4 Tryz.f4 Rows.gcasOneSpec Rows.gcasOneRow = true := by
  unfold joinedFacts
  repeat' (with_reducible refine aCQ ?_ ?_)
  all_goals first | with_reducible exact ug | with_reducible exact pq | with_reducible exact a6 | with_reducible exact aAP | with_reducible exact Sn | with_reducible exact T8 | with_reducible exact Sh | with_reducible exact T5 | with_reducible exact Tb | kernel_rfl
theorem gcasOne_holds : Rows.GcasOneSaid :=
  OpenClaim.holds_of_wide 4 Tryz.f4 rfl rfl rfl rfl rfl rfl rfl ⟨rfl, rfl, rfl, rfl, rfl⟩ rfl rfl rfl rfl rfl (by kernel_rfl) Tryz.func4 Gl
    (of_decide_eq_true (by kernel_rfl)) (by unfold Func.isWrapper; first | (rw [if_pos (by decide +kernel)]; kernel_rfl) | (rw [if_neg (by decide +kernel)]; exact ⟨rfl, rfl⟩))
    (fun os started H enc _ => Ij os started H enc)
#print axioms gcasOne_holds
end Go.Proofs.YtbajmaoegmbfgaaGreat
