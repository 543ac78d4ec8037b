/- The law RootTogether holds: two Swaps and a Read whose steps are interleaved make the specified accesses; for every input, without condition. -/
import Derived.Test.YtbajmaoegmbfgaaGreatGOpen
import Derived.Test.YtbajmaoegmbfgaaGreatLr7
set_option linter.unusedSimpArgs false
set_option linter.unusedVariables false
namespace Go.Proofs.YtbajmaoegmbfgaaGreat
open Go.RowKit Go.Ct Go.ChangeShapes Go.WideShapes Go.ChangeAt

set_option maxRecDepth 100000 in
theorem xU (os : Os) (started : os.Started) (H : Type) (enc : TypeId × Value → H) :
    ReturnsInHanded {} Tryz.checked os 14 .any (Rows.rootTogetherSpec.pre6 enc Tryz.prog Tryz.f14 [] false) (Rows.rootTogetherSpec.post enc Tryz.prog Tryz.f14 false true false false) := by
  refine Rp (C := Tryz.checked) started aBu zp (by kernel_rfl) Tryz.func14 (by kernel_rfl) rfl tx rfl ?_
    (ChangeSpec.witness6 (enc := enc) (C := Tryz.checked) false ⟨#[], #[.slice none 0 0, .slice none 0 0, .slice none 0 0, .bool false], []⟩ 8 (by kernel_rfl) (by kernel_rfl) (by kernel_rfl) (by kernel_rfl)) ?_
  · intro ds hd
    match ds, hd with
    | [d1, d2, d3, d4], _ => exact ⟨rfl, rfl, rfl⟩
  · intro W args ds hc
    have ha := hc.split
    rw [show Tryz.f14.params.toList = [22, 22, 22, 4] from by kernel_rfl] at ha
    obtain ⟨v0, _, _, rfl, a0, ha⟩ := ha.next
    obtain ⟨v1, _, _, rfl, a1, ha⟩ := ha.next
    obtain ⟨v2, _, _, rfl, a2, ha⟩ := ha.next
    obtain ⟨v3, _, _, rfl, a3, ha⟩ := ha.next
    obtain rfl := ha.done
    obtain ⟨p0, l0, c0, rfl, hlc0, hc0, hcl0, hv0⟩ := F6 a0
    obtain ⟨p1, l1, c1, rfl, hlc1, hc1, hcl1, hv1⟩ := F6 a1
    obtain ⟨p2, l2, c2, rfl, hlc2, hc2, hcl2, hv2⟩ := F6 a2
    obtain ⟨b3, rfl⟩ := a3.bool tx
    exact Fm hcl0 (by omega) hcl1 (by omega) hcl2 (by omega)
theorem D3 : (Rows.rootTogetherRow.inPlace == Tryz.prog.inPlace 14) = true := by kernel_rfl
theorem Dx : (Rows.rootTogetherRow.unfollowed == Tryz.prog.unfollowed 14) = true := by kernel_rfl
theorem Dn : (Rows.rootTogetherRow.recurses == Tryz.prog.recurses 14) = true := by kernel_rfl
theorem D0 : (Rows.rootTogetherRow.named == Tryz.prog.varsNamed 14) = true := by kernel_rfl
theorem Dv : (Rows.rootTogetherRow.lifted == Tryz.prog.liftsFinal) = true := Zj
theorem yC : joinedFacts Tryz.prog 14 Tryz.f14 Rows.rootTogetherSpec Rows.rootTogetherRow = true := by
  unfold joinedFacts
  repeat' (with_reducible refine aBI ?_ ?_)
  all_goals first | with_reducible exact mu | with_reducible exact rm | with_reducible exact ld | with_reducible exact y6 | with_reducible exact Dv | with_reducible exact D3 | with_reducible exact Dx | with_reducible exact Dn | with_reducible exact D0 | kernel_rfl
theorem rootTogether_holds : Rows.RootTogetherSaid :=
  OpenClaim.holds_of_wide 14 Tryz.f14 rfl rfl rfl rfl rfl rfl rfl ⟨rfl, rfl, rfl, rfl, rfl⟩ rfl rfl rfl rfl rfl (by kernel_rfl) Tryz.func14 yC
    (of_decide_eq_true (by kernel_rfl)) (by unfold Func.isWrapper; first | (rw [if_pos (by decide +kernel)]; kernel_rfl) | (rw [if_neg (by decide +kernel)]; exact ⟨rfl, rfl⟩))
    (fun os started H enc _ => xU os started H enc)
#print axioms rootTogether_holds
end Go.Proofs.YtbajmaoegmbfgaaGreat
