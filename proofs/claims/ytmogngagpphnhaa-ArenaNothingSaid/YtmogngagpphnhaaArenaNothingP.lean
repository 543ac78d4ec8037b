/- The law ArenaNothing holds: what is returned for cells and nodes that do not exist; for every input, without condition. -/
import Derived.Test.YtmogngagpphnhaaOpen2
import Derived.Test.YtmogngagpphnhaaArC
set_option linter.unusedSimpArgs false
set_option linter.unusedVariables false
namespace Go.Proofs.Ytmogngagpphnhaa
open Go.RowKit Go.Ct Go.ChangeShapes Go.WideShapes Go.ChangeAt

set_option maxRecDepth 100000 in
theorem arenaNothing_lifted (os : Os) (started : os.Started) (H : Type) (enc : TypeId × Value → H) :
    ReturnsInHanded {} Try.checked os 5 .any (Rows.arenaNothingSpec.pre6 enc Try.prog Try.f5 [] false) (Rows.arenaNothingSpec.post enc Try.prog Try.f5 false true false false) := by
  refine law_lifted (C := Try.checked) started ownT laidT (by kernel_rfl) Try.func5 (by kernel_rfl) rfl boolT rfl ?_
    (ChangeSpec.witness6 (enc := enc) (C := Try.checked) false ⟨#[], #[.slice none 0 0, .int .i64 0, .int .i64 0, .int .i64 0], []⟩ 8 (by kernel_rfl) (by kernel_rfl) (by kernel_rfl) (by kernel_rfl)) ?_
  · intro ds hd
    match ds, hd with
    | [d1, d2, d3, d4], _ => exact ⟨rfl, rfl, rfl⟩
  · intro W args ds hc
    have ha := hc.split
    rw [show Try.f5.params.toList = [22, 3, 3, 3] from by kernel_rfl] at ha
    obtain ⟨v0, _, _, rfl, a0, ha⟩ := ha.next
    obtain ⟨v1, _, _, rfl, a1, ha⟩ := ha.next
    obtain ⟨v2, _, _, rfl, a2, ha⟩ := ha.next
    obtain ⟨v3, _, _, rfl, a3, ha⟩ := ha.next
    obtain rfl := ha.done
    obtain ⟨p0, l0, c0, rfl, hlc0, hc0, hcl0, hv0⟩ := arg_ints a0
    obtain ⟨i1, rfl, r1⟩ := arg_i64 a1 u_int
    obtain ⟨i2, rfl, r2⟩ := arg_i64 a2 u_int
    obtain ⟨i3, rfl, r3⟩ := arg_i64 a3 u_int
    exact arenaNothing_c i1 i2 i3 hcl0 (by omega) r1.2
theorem arenaNothing_holds : Rows.ArenaNothingSaid :=
  OpenClaim.holds_of_wide 5 Try.f5 rfl rfl rfl rfl rfl rfl rfl ⟨rfl, rfl, rfl, rfl, rfl⟩ rfl rfl rfl rfl rfl (by kernel_rfl) Try.func5 (by kernel_rfl)
    (of_decide_eq_true (by kernel_rfl)) (by unfold Func.isWrapper; first | (rw [if_pos (by decide +kernel)]; kernel_rfl) | (rw [if_neg (by decide +kernel)]; exact ⟨rfl, rfl⟩))
    (fun os started H enc _ => arenaNothing_lifted os started H enc)
#print axioms arenaNothing_holds
end Go.Proofs.Ytmogngagpphnhaa
