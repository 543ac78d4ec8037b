/- The law ViewOrder holds: the contents of tries that result from operations are in ascending order, without a key twice; for every input, without condition. -/
import Derived.Test.YtpobgmdalcpomaaGreatGOpen
import Derived.Test.YtpobgmdalcpomaaGreatGVw6
set_option linter.unusedSimpArgs false
set_option linter.unusedVariables false
namespace Go.Proofs.YtpobgmdalcpomaaGreat
open Go.RowKit Go.Ct Go.ChangeShapes Go.WideShapes Go.ChangeAt

set_option maxRecDepth 100000 in
theorem viewOrder_lifted (os : Os) (started : os.Started) (H : Type) (enc : TypeId × Value → H) :
    ReturnsInHanded {} Tryz.checked os 3 .any (Rows.viewOrderSpec.pre6 enc Tryz.prog Tryz.f3 [] false) (Rows.viewOrderSpec.post enc Tryz.prog Tryz.f3 false true false false) := by
  refine law_lifted (C := Tryz.checked) started ownT laidT (by kernel_rfl) Tryz.func3 (by kernel_rfl) rfl boolT rfl ?_
    (ChangeSpec.witness6 (enc := enc) (C := Tryz.checked) false ⟨#[], #[.slice none 0 0], []⟩ 8 (by kernel_rfl) (by kernel_rfl) (by kernel_rfl) (by kernel_rfl)) ?_
  · intro ds hd
    match ds, hd with
    | [d1], _ => exact ⟨rfl, rfl, rfl⟩
  · intro W args ds hc
    have ha := hc.split
    rw [show Tryz.f3.params.toList = [22] from by kernel_rfl] at ha
    obtain ⟨v0, _, _, rfl, a0, ha⟩ := ha.next
    obtain rfl := ha.done
    obtain ⟨p0, l0, c0, rfl, hlc0, hc0, hcl0, hv0⟩ := arg_ints a0
    exact viewOrder_c hcl0 (by omega)
theorem viewOrder_ip : (Rows.viewOrderRow.inPlace == Tryz.prog.inPlace 3) = true := by kernel_rfl
theorem viewOrder_uf : (Rows.viewOrderRow.unfollowed == Tryz.prog.unfollowed 3) = true := by kernel_rfl
theorem viewOrder_re : (Rows.viewOrderRow.recurses == Tryz.prog.recurses 3) = true := by kernel_rfl
theorem viewOrder_vn : (Rows.viewOrderRow.named == Tryz.prog.varsNamed 3) = true := by kernel_rfl
theorem viewOrder_li : (Rows.viewOrderRow.lifted == Tryz.prog.liftsFinal) = true := op_lifts
theorem viewOrder_closed : joinedFacts Tryz.prog 3 Tryz.f3 Rows.viewOrderSpec Rows.viewOrderRow = true := by
  unfold joinedFacts
  repeat' (with_reducible refine andT ?_ ?_)
  all_goals first | with_reducible exact op_laid | with_reducible exact op_maps | with_reducible exact op_stops | with_reducible exact op_may | with_reducible exact viewOrder_li | with_reducible exact viewOrder_ip | with_reducible exact viewOrder_uf | with_reducible exact viewOrder_re | with_reducible exact viewOrder_vn | kernel_rfl
theorem viewOrder_holds : Rows.ViewOrderSaid :=
  OpenClaim.holds_of_wide 3 Tryz.f3 rfl rfl rfl rfl rfl rfl rfl ⟨rfl, rfl, rfl, rfl, rfl⟩ rfl rfl rfl rfl rfl (by kernel_rfl) Tryz.func3 viewOrder_closed
    (of_decide_eq_true (by kernel_rfl)) (by unfold Func.isWrapper; first | (rw [if_pos (by decide +kernel)]; kernel_rfl) | (rw [if_neg (by decide +kernel)]; exact ⟨rfl, rfl⟩))
    (fun os started H enc _ => viewOrder_lifted os started H enc)
#print axioms viewOrder_holds
end Go.Proofs.YtpobgmdalcpomaaGreat
