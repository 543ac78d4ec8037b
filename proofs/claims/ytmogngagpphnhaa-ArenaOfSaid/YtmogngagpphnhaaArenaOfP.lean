/- The law ArenaOf holds: Of accepts exactly the proper states, and State returns the state; for every input, without condition. -/
import Derived.Test.YtmogngagpphnhaaOpen3
import Derived.Test.YtmogngagpphnhaaArO
set_option linter.unusedSimpArgs false
set_option linter.unusedVariables false
namespace Go.Proofs.Ytmogngagpphnhaa
open Go.RowKit Go.Ct Go.ChangeShapes Go.WideShapes Go.ChangeAt

set_option maxRecDepth 100000 in
theorem arenaOf_lifted (os : Os) (started : os.Started) (H : Type) (enc : TypeId × Value → H) :
    ReturnsInHanded {} Try.checked os 4 .any (Rows.arenaOfSpec.pre6 enc Try.prog Try.f4 [] false) (Rows.arenaOfSpec.post enc Try.prog Try.f4 false true false false) := by
  refine law_lifted (C := Try.checked) started ownT laidT (by kernel_rfl) Try.func4 (by kernel_rfl) rfl boolT rfl ?_
    (ChangeSpec.witness6 (enc := enc) (C := Try.checked) false ⟨#[], #[.agg ⟨[.slice none 0 0, .slice none 0 0, .int .i64 0]⟩, .slice none 0 0, .int .i64 0, .int .i64 0, .agg ⟨[.int .i64 0, .int .i64 0, .int .i64 0, .int .u64 0, .slice none 0 0, .int .u64 0, .string ⟨#[]⟩, .int .u64 0, .slice none 0 0, .int .i64 0, .int .i64 0, .int .i64 0, .int .i64 0, .int .i64 0]⟩], []⟩ 8 (by kernel_rfl) (by kernel_rfl) (by kernel_rfl) (by kernel_rfl)) ?_
  · intro ds hd
    match ds, hd with
    | [d1, d2, d3, d4, d5], _ => exact ⟨rfl, rfl, rfl⟩
  · intro W args ds hc
    have ha := hc.split
    rw [show Try.f4.params.toList = [34, 22, 3, 3, 48] from by kernel_rfl] at ha
    obtain ⟨v0, _, _, rfl, a0, ha⟩ := ha.next
    obtain ⟨v1, _, _, rfl, a1, ha⟩ := ha.next
    obtain ⟨v2, _, _, rfl, a2, ha⟩ := ha.next
    obtain ⟨v3, _, _, rfl, a3, ha⟩ := ha.next
    obtain ⟨v4, _, _, rfl, a4, ha⟩ := ha.next
    obtain rfl := ha.done
    obtain ⟨s0, rfl, ha0, hok0, hL0, hC0, r0⟩ := arg_state a0
    obtain ⟨p1, l1, c1, rfl, hlc1, hc1, hcl1, hv1⟩ := arg_ints a1
    obtain ⟨i2, rfl, r2⟩ := arg_i64 a2 u_int
    obtain ⟨i3, rfl, r3⟩ := arg_i64 a3 u_int
    obtain ⟨n4, xs4, ys4, rfl, hr4, hn4⟩ := arg_node a4
    exact arenaOf_c i2 i3 ha0 hok0 hcl1 (by omega) hr4 (ok_fit hn4 hr4) (ok_ndR hn4) hL0 hC0
theorem arenaOf_holds : Rows.ArenaOfSaid :=
  OpenClaim.holds_of_wide 4 Try.f4 rfl rfl rfl rfl rfl rfl rfl ⟨rfl, rfl, rfl, rfl, rfl⟩ rfl rfl rfl rfl rfl (by kernel_rfl) Try.func4 (by kernel_rfl)
    (of_decide_eq_true (by kernel_rfl)) (by unfold Func.isWrapper; first | (rw [if_pos (by decide +kernel)]; kernel_rfl) | (rw [if_neg (by decide +kernel)]; exact ⟨rfl, rfl⟩))
    (fun os started H enc _ => arenaOf_lifted os started H enc)
#print axioms arenaOf_holds
end Go.Proofs.Ytmogngagpphnhaa
