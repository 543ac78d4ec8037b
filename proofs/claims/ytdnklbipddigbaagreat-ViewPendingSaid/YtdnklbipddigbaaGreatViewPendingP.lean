/- The law ViewPending holds: what is pending is not seen: the main node of an I-node is the same before and after another main node is installed over it, and after this has failed; and it is the new one after the commit; for every input, without condition. -/
import Derived.Test.YtdnklbipddigbaaGreatGOpen
import Derived.Test.YtdnklbipddigbaaGreatVp3
set_option linter.unusedSimpArgs false
set_option linter.unusedVariables false
namespace Go.Proofs.YtdnklbipddigbaaGreat
open Go.Proofs.Tryz (prog)
open Go.RowKit Go.Ct Go.ChangeShapes Go.WideShapes Go.ChangeAt
set_option maxRecDepth 100000 in
theorem viewPending_lifted (os : Os) (started : os.Started) (H : Type) (enc : TypeId × Value → H) :
    ReturnsInHanded {} Tryz.checked os 3 .any (Rows.viewPendingSpec.pre6 enc prog Tryz.f3 [] false) (Rows.viewPendingSpec.post enc prog Tryz.f3 false true false false) := by
     refine law_lifted (C := Tryz.checked) started ownT laidT (by kernel_rfl) Tryz.func3 (by kernel_rfl) rfl boolT rfl ?_
       (ChangeSpec.witness6 (enc := enc) (C := Tryz.checked) false ⟨#[], #[.slice none 0 0, .int .i64 0, .int .u64 0], []⟩ 8 (by kernel_rfl) (by kernel_rfl) (by kernel_rfl) (by kernel_rfl)) ?_
     ·intro ds hd;match ds, hd with
      | [d1, d2, d3], _=> exact ⟨rfl, rfl, rfl⟩
     ·intro W args ds hc;have ha := hc.split;rw [show Tryz.f3.params.toList = [22, 3, 23] from by kernel_rfl] at ha;obtain ⟨v0, _, _, rfl, a0, ha⟩ := ha.next;obtain ⟨v1, _, _, rfl, a1, ha⟩ := ha.next;obtain ⟨v2, _, _, rfl, a2, ha⟩ := ha.next;obtain rfl := ha.done;obtain ⟨p0, l0, c0, rfl, hlc0, hc0, hcl0, hv0⟩ := arg_ints a0;obtain ⟨i1, rfl, r1⟩ := arg_i64 a1 u_int;obtain ⟨i2, rfl, r2⟩ := arg_u64 a2 u_u64;exact viewPending_c hcl0 (by omega)
theorem viewPending_ip : (Rows.viewPendingRow.inPlace == prog.inPlace 3) = true := by kernel_rfl
theorem viewPending_uf : (Rows.viewPendingRow.unfollowed == prog.unfollowed 3) = true := by kernel_rfl
theorem viewPending_re : (Rows.viewPendingRow.recurses == prog.recurses 3) = true := by kernel_rfl
theorem viewPending_vn : (Rows.viewPendingRow.named == prog.varsNamed 3) = true := by kernel_rfl
theorem viewPending_li : (Rows.viewPendingRow.lifted == prog.liftsFinal) = true := op_lifts
theorem viewPending_closed : joinedFacts prog 3 Tryz.f3 Rows.viewPendingSpec Rows.viewPendingRow = true := by
 unfold joinedFacts;repeat' (with_reducible refine andT ?_ ?_)
 all_goals first | with_reducible exact op_laid | with_reducible exact op_maps | with_reducible exact op_stops | with_reducible exact op_may | with_reducible exact viewPending_li | with_reducible exact viewPending_ip | with_reducible exact viewPending_uf | with_reducible exact viewPending_re | with_reducible exact viewPending_vn | kernel_rfl
theorem viewPending_holds : Rows.ViewPendingSaid :=
  OpenClaim.holds_of_wide 3 Tryz.f3 rfl rfl rfl rfl rfl rfl rfl ⟨rfl, rfl, rfl, rfl, rfl⟩ rfl rfl rfl rfl rfl (by kernel_rfl) Tryz.func3 viewPending_closed
    (of_decide_eq_true (by kernel_rfl)) (by unfold Func.isWrapper; first | (rw [if_pos (by decide +kernel)]; kernel_rfl) | (rw [if_neg (by decide +kernel)]; exact ⟨rfl, rfl⟩))
    (fun os started H enc _ => viewPending_lifted os started H enc)
#print axioms viewPending_holds
end Go.Proofs.YtdnklbipddigbaaGreat
