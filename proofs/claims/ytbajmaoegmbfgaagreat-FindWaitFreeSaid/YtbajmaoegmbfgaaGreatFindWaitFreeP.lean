/- The law FindWaitFree holds: a Lookup whose steps are interleaved with those of three other Lookups, in states with unfinished operations, agrees with the reference at every step, and is finished after at most 135 steps of its own; for every input, without condition. -/
import Derived.Test.YtbajmaoegmbfgaaGreatGOpen
import Derived.Test.YtbajmaoegmbfgaaGreatFd9
set_option linter.unusedSimpArgs false
set_option linter.unusedVariables false
namespace Go.Proofs.YtbajmaoegmbfgaaGreat
open Go.RowKit Go.Ct Go.ChangeShapes Go.WideShapes Go.ChangeAt

set_option maxRecDepth 100000 in
theorem xY (os : Os) (started : os.Started) (H : Type) (enc : TypeId × Value → H) :
    ReturnsInHanded {} Tryz.checked os 18 .any (Rows.findWaitFreeSpec.pre6 enc Tryz.prog Tryz.f18 [] false) (Rows.findWaitFreeSpec.post enc Tryz.prog Tryz.f18 false true false false) := by
  refine Tw (C := Tryz.checked) started aCg aA7 (by kernel_rfl) Tryz.func18 (by kernel_rfl) rfl aBz rfl ?_
    (ChangeSpec.witness6 (enc := enc) (C := Tryz.checked) false ⟨#[], #[.slice none 0 0, .slice none 0 0, .slice none 0 0], []⟩ 8 (by kernel_rfl) (by kernel_rfl) (by kernel_rfl) (by kernel_rfl)) ?_
  · intro ds hd
    match ds, hd with
    | [d1, d2, d3], _ => exact ⟨rfl, rfl, rfl⟩
  · intro W args ds hc
    have ha := hc.split
    rw [show Tryz.f18.params.toList = [22, 22, 22] from by kernel_rfl] at ha
    obtain ⟨v0, _, _, rfl, a0, ha⟩ := ha.next
    obtain ⟨v1, _, _, rfl, a1, ha⟩ := ha.next
    obtain ⟨v2, _, _, rfl, a2, ha⟩ := ha.next
    obtain rfl := ha.done
    obtain ⟨p0, l0, c0, rfl, hlc0, hc0, hcl0, hv0⟩ := G8 a0
    obtain ⟨p1, l1, c1, rfl, hlc1, hc1, hcl1, hv1⟩ := G8 a1
    obtain ⟨p2, l2, c2, rfl, hlc2, hc2, hcl2, hv2⟩ := G8 a2
    exact Gy hcl0 (by omega) hcl1 (by omega) hcl2 (by omega)
theorem Ef : (Rows.findWaitFreeRow.inPlace == Tryz.prog.inPlace 18) = true := by kernel_rfl
theorem Eb : (Rows.findWaitFreeRow.unfollowed == Tryz.prog.unfollowed 18) = true := by kernel_rfl
theorem Ec : (Rows.findWaitFreeRow.recurses == Tryz.prog.recurses 18) = true := by kernel_rfl
theorem D8 : (Rows.findWaitFreeRow.named == Tryz.prog.varsNamed 18) = true := by kernel_rfl
theorem Ed : (Rows.findWaitFreeRow.lifted == Tryz.prog.liftsFinal) = true := jv
theorem xU : joinedFacts Tryz.prog 18 Tryz.f18 Rows.findWaitFreeSpec Rows.findWaitFreeRow = true := by
  unfold joinedFacts
  repeat' (with_reducible refine aCs ?_ ?_)
  all_goals first | with_reducible exact qd | with_reducible exact oh | with_reducible exact Zy | with_reducible exact xz | with_reducible exact Ed | with_reducible exact Ef | with_reducible exact Eb | with_reducible exact Ec | with_reducible exact D8 | kernel_rfl
theorem findWaitFree_holds : Rows.FindWaitFreeSaid :=
  OpenClaim.holds_of_wide 18 Tryz.f18 rfl rfl rfl rfl rfl rfl rfl ⟨rfl, rfl, rfl, rfl, rfl⟩ rfl rfl rfl rfl rfl (by kernel_rfl) Tryz.func18 xU
    (of_decide_eq_true (by kernel_rfl)) (by unfold Func.isWrapper; first | (rw [if_pos (by decide +kernel)]; kernel_rfl) | (rw [if_neg (by decide +kernel)]; exact ⟨rfl, rfl⟩))
    (fun os started H enc _ => xY os started H enc)
#print axioms findWaitFree_holds
end Go.Proofs.YtbajmaoegmbfgaaGreat
