/- The law FindExact holds: Lookup makes the specified accesses, step by step, and has the specified result, in states that result from operations, some of which are not finished; for every input, without condition. -/
import Derived.Test.YtbajmaoegmbfgaaGreatGOpen
import Derived.Test.YtbajmaoegmbfgaaGreatGLk5
set_option linter.unusedSimpArgs false
set_option linter.unusedVariables false
namespace Go.Proofs.YtbajmaoegmbfgaaGreat
open Go.RowKit Go.Ct Go.ChangeShapes Go.WideShapes Go.ChangeAt

set_option maxRecDepth 100000 in
theorem A5 (os : Os) (started : os.Started) (H : Type) (enc : TypeId × Value → H) :
    ReturnsInHanded {} Tryz.checked os 17 .any (Rows.findExactSpec.pre6 enc Tryz.prog Tryz.f17 [] false) (Rows.findExactSpec.post enc Tryz.prog Tryz.f17 false true false false) := by
  refine Si (C := Tryz.checked) started aBT aAv (by kernel_rfl) Tryz.func17 (by kernel_rfl) rfl ue rfl ?_
    (ChangeSpec.witness6 (enc := enc) (C := Tryz.checked) false ⟨#[], #[.slice none 0 0, .slice none 0 0, .string ⟨#[]⟩, .bool false], []⟩ 8 (by kernel_rfl) (by kernel_rfl) (by kernel_rfl) (by kernel_rfl)) ?_
  · intro ds hd
    match ds, hd with
    | [d1, d2, d3, d4], _ => exact ⟨rfl, rfl, rfl⟩
  · intro W args ds hc
    have ha := hc.split
    rw [show Tryz.f17.params.toList = [22, 22, 9, 4] from by kernel_rfl] at ha
    obtain ⟨v0, _, _, rfl, a0, ha⟩ := ha.next
    obtain ⟨v1, _, _, rfl, a1, ha⟩ := ha.next
    obtain ⟨v2, _, _, rfl, a2, ha⟩ := ha.next
    obtain ⟨v3, _, _, rfl, a3, ha⟩ := ha.next
    obtain rfl := ha.done
    obtain ⟨p0, l0, c0, rfl, hlc0, hc0, hcl0, hv0⟩ := P0 a0
    obtain ⟨p1, l1, c1, rfl, hlc1, hc1, hcl1, hv1⟩ := P0 a1
    obtain ⟨s2, rfl, r2⟩ := a2.str aAw
    obtain ⟨b3, rfl⟩ := a3.bool ue
    exact O9 hcl0 (by omega) hcl1 (by omega) (by omega)
theorem Ka : (Rows.findExactRow.inPlace == Tryz.prog.inPlace 17) = true := by kernel_rfl
theorem Ln : (Rows.findExactRow.unfollowed == Tryz.prog.unfollowed 17) = true := by kernel_rfl
theorem Kk : (Rows.findExactRow.recurses == Tryz.prog.recurses 17) = true := by kernel_rfl
theorem Ls : (Rows.findExactRow.named == Tryz.prog.varsNamed 17) = true := by kernel_rfl
theorem Jz : (Rows.findExactRow.lifted == Tryz.prog.liftsFinal) = true := Y8
theorem Bb : joinedFacts Tryz.prog 17 Tryz.f17 Rows.findExactSpec Rows.findExactRow = true := by
  unfold joinedFacts
  repeat' (with_reducible refine aBX ?_ ?_)
  all_goals first | with_reducible exact ns | with_reducible exact qa | with_reducible exact jy | with_reducible exact zk | with_reducible exact Jz | with_reducible exact Ka | with_reducible exact Ln | with_reducible exact Kk | with_reducible exact Ls | kernel_rfl
theorem findExact_holds : Rows.FindExactSaid :=
  OpenClaim.holds_of_wide 17 Tryz.f17 rfl rfl rfl rfl rfl rfl rfl ⟨rfl, rfl, rfl, rfl, rfl⟩ rfl rfl rfl rfl rfl (by kernel_rfl) Tryz.func17 Bb
    (of_decide_eq_true (by kernel_rfl)) (by unfold Func.isWrapper; first | (rw [if_pos (by decide +kernel)]; kernel_rfl) | (rw [if_neg (by decide +kernel)]; exact ⟨rfl, rfl⟩))
    (fun os started H enc _ => A5 os started H enc)
#print axioms findExact_holds
end Go.Proofs.YtbajmaoegmbfgaaGreat
