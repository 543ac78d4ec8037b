/- The law GcasReads holds: Read makes the specified accesses, step by step, in states that result from operations, some of which are not finished; for every input, without condition. -/
import Derived.Test.YtbajmaoegmbfgaaGreatGOpen
import Derived.Test.YtbajmaoegmbfgaaGreatGLg2
set_option linter.unusedSimpArgs false
set_option linter.unusedVariables false
namespace Go.Proofs.YtbajmaoegmbfgaaGreat
open Go.RowKit Go.Ct Go.ChangeShapes Go.WideShapes Go.ChangeAt

set_option maxRecDepth 100000 in
theorem Cb (os : Os) (started : os.Started) (H : Type) (enc : TypeId × Value → H) :
    ReturnsInHanded {} Tryz.checked os 8 .any (Rows.gcasReadsSpec.pre6 enc Tryz.prog Tryz.f8 [] false) (Rows.gcasReadsSpec.post enc Tryz.prog Tryz.f8 false true false false) := by
  refine Tj (C := Tryz.checked) started aBT aA5 (by kernel_rfl) Tryz.func8 (by kernel_rfl) rfl aBA rfl ?_
    (ChangeSpec.witness6 (enc := enc) (C := Tryz.checked) false ⟨#[], #[.slice none 0 0, .slice none 0 0], []⟩ 8 (by kernel_rfl) (by kernel_rfl) (by kernel_rfl) (by kernel_rfl)) ?_
  · intro ds hd
    match ds, hd with
    | [d1, d2], _ => exact ⟨rfl, rfl, rfl⟩
  · intro W args ds hc
    have ha := hc.split
    rw [show Tryz.f8.params.toList = [22, 22] from by kernel_rfl] at ha
    obtain ⟨v0, _, _, rfl, a0, ha⟩ := ha.next
    obtain ⟨v1, _, _, rfl, a1, ha⟩ := ha.next
    obtain rfl := ha.done
    obtain ⟨p0, l0, c0, rfl, hlc0, hc0, hcl0, hv0⟩ := P7 a0
    obtain ⟨p1, l1, c1, rfl, hlc1, hc1, hcl1, hv1⟩ := P7 a1
    exact On hcl0 (by omega) hcl1 (by omega)
theorem K3 : (Rows.gcasReadsRow.inPlace == Tryz.prog.inPlace 8) = true := by kernel_rfl
theorem Ld : (Rows.gcasReadsRow.unfollowed == Tryz.prog.unfollowed 8) = true := by kernel_rfl
theorem L3 : (Rows.gcasReadsRow.recurses == Tryz.prog.recurses 8) = true := by kernel_rfl
theorem L8 : (Rows.gcasReadsRow.named == Tryz.prog.varsNamed 8) = true := by kernel_rfl
theorem Mw : (Rows.gcasReadsRow.lifted == Tryz.prog.liftsFinal) = true := ml
theorem Bo : joinedFacts Tryz.prog 8 Tryz.f8 Rows.gcasReadsSpec Rows.gcasReadsRow = true := by
  unfold joinedFacts
  repeat' (with_reducible refine aCa ?_ ?_)
  all_goals first | with_reducible exact pi | with_reducible exact m8 | with_reducible exact fj | with_reducible exact yo | with_reducible exact Mw | with_reducible exact K3 | with_reducible exact Ld | with_reducible exact L3 | with_reducible exact L8 | kernel_rfl
theorem gcasReads_holds : Rows.GcasReadsSaid :=
  OpenClaim.holds_of_wide 8 Tryz.f8 rfl rfl rfl rfl rfl rfl rfl ⟨rfl, rfl, rfl, rfl, rfl⟩ rfl rfl rfl rfl rfl (by kernel_rfl) Tryz.func8 Bo
    (of_decide_eq_true (by kernel_rfl)) (by unfold Func.isWrapper; first | (rw [if_pos (by decide +kernel)]; kernel_rfl) | (rw [if_neg (by decide +kernel)]; exact ⟨rfl, rfl⟩))
    (fun os started H enc _ => Cb os started H enc)
#print axioms gcasReads_holds
end Go.Proofs.YtbajmaoegmbfgaaGreat
