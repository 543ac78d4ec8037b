/- The law TombUndo holds: untombing a contracted C-node gives its single, and contraction changes nothing else; for every input, without condition. -/
import Derived.Test.YthmagkjcangnfaaOpen2
import Derived.Test.YthmagkjcangnfaaTo7
set_option linter.unusedSimpArgs false
set_option linter.unusedVariables false
namespace Go.Proofs.Ythmagkjcangnfaa
open Go.RowKit Go.Ct Go.ChangeShapes Go.WideShapes Go.ChangeAt

set_option maxRecDepth 100000 in
theorem tombUndo_lifted (os : Os) (started : os.Started) (H : Type) (enc : TypeId × Value → H) :
    ReturnsInHanded {} Try.checked os 18 .any (Rows.tombUndoSpec.pre6 enc Try.prog Try.f18 [] false) (Rows.tombUndoSpec.post enc Try.prog Try.f18 false true false false) := by
  refine law_lifted (C := Try.checked) started ownT laidT (by kernel_rfl) Try.func18 (by kernel_rfl) rfl boolT rfl ?_
    (ChangeSpec.witness6 (enc := enc) (C := Try.checked) false ⟨#[], #[.slice none 0 0, .int .u8 0, .int .u64 0, .int .u64 0, .int .u8 0, .int .u16 0], []⟩ 8 (by kernel_rfl) (by kernel_rfl) (by kernel_rfl) (by kernel_rfl)) ?_
  · intro ds hd
    match ds, hd with
    | [d1, d2, d3, d4, d5, d6], _ => exact ⟨rfl, rfl, rfl⟩
  · intro W args ds hc
    have ha := hc.split
    rw [show Try.f18.params.toList = [29, 5, 23, 23, 5, 55] from by kernel_rfl] at ha
    obtain ⟨v0, _, _, rfl, a0, ha⟩ := ha.next
    obtain ⟨v1, _, _, rfl, a1, ha⟩ := ha.next
    obtain ⟨v2, _, _, rfl, a2, ha⟩ := ha.next
    obtain ⟨v3, _, _, rfl, a3, ha⟩ := ha.next
    obtain ⟨v4, _, _, rfl, a4, ha⟩ := ha.next
    obtain ⟨v5, _, _, rfl, a5, ha⟩ := ha.next
    obtain rfl := ha.done
    obtain ⟨p0, l0, c0, rfl, hlc0, hc0, hcl0, hv0⟩ := arg_ints a0
    obtain ⟨i1, rfl, r1⟩ := arg_u8 a1 u_u8
    obtain ⟨i2, rfl, r2⟩ := arg_u64 a2 u_u64
    obtain ⟨i3, rfl, r3⟩ := arg_u64 a3 u_u64
    obtain ⟨i4, rfl, r4⟩ := arg_u8 a4 u_u8
    obtain ⟨i5, rfl, r5⟩ := arg_u16 a5 u_u16
    exact tombUndo_c r1 r4 r5 hcl0 (by omega)
theorem tombUndo_holds : Rows.TombUndoSaid :=
  OpenClaim.holds_of_wide 18 Try.f18 rfl rfl rfl rfl rfl rfl rfl ⟨rfl, rfl, rfl, rfl, rfl⟩ rfl rfl rfl rfl rfl (by kernel_rfl) Try.func18 (by kernel_rfl)
    (of_decide_eq_true (by kernel_rfl)) (by unfold Func.isWrapper; first | (rw [if_pos (by decide +kernel)]; kernel_rfl) | (rw [if_neg (by decide +kernel)]; exact ⟨rfl, rfl⟩))
    (fun os started H enc _ => tombUndo_lifted os started H enc)
#print axioms tombUndo_holds
end Go.Proofs.Ythmagkjcangnfaa
