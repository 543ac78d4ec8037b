/- The law ViewMains holds: the I-nodes of a trie that results from operations are different, each has a main node, and the first one is the root; for every input, without condition. -/
import Derived.Test.YtpobgmdalcpomaaGreatGOpen
import Derived.Test.YtpobgmdalcpomaaGreatGWv1
set_option linter.unusedSimpArgs false
set_option linter.unusedVariables false
namespace Go.Proofs.YtpobgmdalcpomaaGreat
open Go.RowKit Go.Ct Go.ChangeShapes Go.WideShapes Go.ChangeAt

set_option maxRecDepth 100000 in
theorem viewMains_lifted (os : Os) (started : os.Started) (H : Type) (enc : TypeId × Value → H) :
    ReturnsInHanded {} Tryz.checked os 6 .any (Rows.viewMainsSpec.pre6 enc Tryz.prog Tryz.f6 [] false) (Rows.viewMainsSpec.post enc Tryz.prog Tryz.f6 false true false false) := by
  refine law_lifted (C := Tryz.checked) started ownT laidT (by kernel_rfl) Tryz.func6 (by kernel_rfl) rfl boolT rfl ?_
    (ChangeSpec.witness6 (enc := enc) (C := Tryz.checked) false ⟨#[], #[.slice none 0 0], []⟩ 8 (by kernel_rfl) (by kernel_rfl) (by kernel_rfl) (by kernel_rfl)) ?_
  · intro ds hd
    match ds, hd with
    | [d1], _ => exact ⟨rfl, rfl, rfl⟩
  · intro W args ds hc
    have ha := hc.split
    rw [show Tryz.f6.params.toList = [22] from by kernel_rfl] at ha
    obtain ⟨v0, _, _, rfl, a0, ha⟩ := ha.next
    obtain rfl := ha.done
    obtain ⟨p0, l0, c0, rfl, hlc0, hc0, hcl0, hv0⟩ := arg_ints a0
    exact viewMains_c hcl0 (by omega)
theorem viewMains_ip : (Rows.viewMainsRow.inPlace == Tryz.prog.inPlace 6) = true := by kernel_rfl
theorem viewMains_uf : (Rows.viewMainsRow.unfollowed == Tryz.prog.unfollowed 6) = true := by kernel_rfl
theorem viewMains_re : (Rows.viewMainsRow.recurses == Tryz.prog.recurses 6) = true := by kernel_rfl
theorem viewMains_vn : (Rows.viewMainsRow.named == Tryz.prog.varsNamed 6) = true := by kernel_rfl
theorem viewMains_li : (Rows.viewMainsRow.lifted == Tryz.prog.liftsFinal) = true := op_lifts
theorem viewMains_closed : joinedFacts Tryz.prog 6 Tryz.f6 Rows.viewMainsSpec Rows.viewMainsRow = true := by
  unfold joinedFacts
  repeat' (with_reducible refine andT ?_ ?_)
  all_goals first | with_reducible exact op_laid | with_reducible exact op_maps | with_reducible exact op_stops | with_reducible exact op_may | with_reducible exact viewMains_li | with_reducible exact viewMains_ip | with_reducible exact viewMains_uf | with_reducible exact viewMains_re | with_reducible exact viewMains_vn | kernel_rfl
theorem viewMains_holds : Rows.ViewMainsSaid :=
  OpenClaim.holds_of_wide 6 Tryz.f6 rfl rfl rfl rfl rfl rfl rfl ⟨rfl, rfl, rfl, rfl, rfl⟩ rfl rfl rfl rfl rfl (by kernel_rfl) Tryz.func6 viewMains_closed
    (of_decide_eq_true (by kernel_rfl)) (by unfold Func.isWrapper; first | (rw [if_pos (by decide +kernel)]; kernel_rfl) | (rw [if_neg (by decide +kernel)]; exact ⟨rfl, rfl⟩))
    (fun os started H enc _ => viewMains_lifted os started H enc)
#print axioms viewMains_holds
end Go.Proofs.YtpobgmdalcpomaaGreat
