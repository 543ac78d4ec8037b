/- The law ArenaPlays holds: an arena returns the specified results and has the specified state after every call; for every input, without condition. -/
import Derived.Test.YtmogngagpphnhaaOpen4
set_option linter.unusedSimpArgs false
set_option linter.unusedVariables false
namespace Go.Proofs.Ytmogngagpphnhaa
open Go.RowKit Go.Ct Go.ChangeShapes Go.WideShapes Go.ChangeAt

set_option maxRecDepth 100000 in
theorem arenaPlays_lifted (os : Os) (started : os.Started) (H : Type) (enc : TypeId × Value → H) :
    ReturnsInHanded {} Try.checked os 7 .any (Rows.arenaPlaysSpec.pre6 enc Try.prog Try.f7 [] false) (Rows.arenaPlaysSpec.post enc Try.prog Try.f7 false true false false) := by
  refine law_lifted (C := Try.checked) started ownT laidT (by kernel_rfl) Try.func7 (by kernel_rfl) rfl boolT rfl ?_
    (ChangeSpec.witness6 (enc := enc) (C := Try.checked) false ⟨#[], #[.slice none 0 0, .slice none 0 0, .bool false], []⟩ 8 (by kernel_rfl) (by kernel_rfl) (by kernel_rfl) (by kernel_rfl)) ?_
  · intro ds hd
    match ds, hd with
    | [d1, d2, d3], _ => exact ⟨rfl, rfl, rfl⟩
  · intro W args ds hc
    have ha := hc.split
    rw [show Try.f7.params.toList = [22, 59, 4] from by kernel_rfl] at ha
    obtain ⟨v0, _, _, rfl, a0, ha⟩ := ha.next
    obtain ⟨v1, _, _, rfl, a1, ha⟩ := ha.next
    obtain ⟨v2, _, _, rfl, a2, ha⟩ := ha.next
    obtain rfl := ha.done
    obtain ⟨p0, l0, c0, rfl, hlc0, hc0, hcl0, hv0⟩ := arg_ints a0
    obtain ⟨p1, l1, c1, rfl, hl1, hcl1, hfr1, hok1⟩ := arg_steps a1
    obtain ⟨b2, rfl⟩ := a2.bool boolT
    exact arenaPlays_c hcl0 (by omega) hcl1 hfr1 hok1 hl1
theorem arenaPlays_holds : Rows.ArenaPlaysSaid :=
  OpenClaim.holds_of_wide 7 Try.f7 rfl rfl rfl rfl rfl rfl rfl ⟨rfl, rfl, rfl, rfl, rfl⟩ rfl rfl rfl rfl rfl (by kernel_rfl) Try.func7 (by kernel_rfl)
    (of_decide_eq_true (by kernel_rfl)) (by unfold Func.isWrapper; first | (rw [if_pos (by decide +kernel)]; kernel_rfl) | (rw [if_neg (by decide +kernel)]; exact ⟨rfl, rfl⟩))
    (fun os started H enc _ => arenaPlays_lifted os started H enc)
#print axioms arenaPlays_holds
end Go.Proofs.Ytmogngagpphnhaa
