/- The law TombExact holds: all functions of tomb return the specified results, for arbitrary and for valid nodes; for every input, without condition. -/
import Derived.Test.YthmagkjcangnfaaOpen2
import Derived.Test.YthmagkjcangnfaaTo6
set_option linter.unusedSimpArgs false
set_option linter.unusedVariables false
namespace Go.Proofs.Ythmagkjcangnfaa
open Go.RowKit Go.Ct Go.ChangeShapes Go.WideShapes Go.ChangeAt

set_option maxRecDepth 100000 in
theorem tombExact_lifted (os : Os) (started : os.Started) (H : Type) (enc : TypeId × Value → H) :
    ReturnsInHanded {} Try.checked os 20 .any (Rows.tombExactSpec.pre6 enc Try.prog Try.f20 [] false) (Rows.tombExactSpec.post enc Try.prog Try.f20 false true false false) := by
  refine law_lifted (C := Try.checked) started ownT laidT (by kernel_rfl) Try.func20 (by kernel_rfl) rfl boolT rfl ?_
    (ChangeSpec.witness6 (enc := enc) (C := Try.checked) false ⟨#[], #[.agg ⟨[.int .i64 0, .int .i64 0, .int .i64 0, .int .u64 0, .slice none 0 0, .int .u64 0, .string ⟨#[]⟩, .int .u64 0, .slice none 0 0, .int .i64 0, .int .i64 0, .int .i64 0, .int .i64 0, .int .i64 0]⟩, .agg ⟨[.int .i64 0, .int .i64 0, .int .i64 0, .int .u64 0, .slice none 0 0, .int .u64 0, .string ⟨#[]⟩, .int .u64 0, .slice none 0 0, .int .i64 0, .int .i64 0, .int .i64 0, .int .i64 0, .int .i64 0]⟩, .slice none 0 0, .int .i64 0, .string ⟨#[]⟩, .int .u64 0], []⟩ 8 (by kernel_rfl) (by kernel_rfl) (by kernel_rfl) (by kernel_rfl)) ?_
  · intro ds hd
    match ds, hd with
    | [d1, d2, d3, d4, d5, d6], _ => exact ⟨rfl, rfl, rfl⟩
  · intro W args ds hc
    have ha := hc.split
    rw [show Try.f20.params.toList = [28, 28, 29, 3, 9, 23] from by kernel_rfl] at ha
    obtain ⟨v0, _, _, rfl, a0, ha⟩ := ha.next
    obtain ⟨v1, _, _, rfl, a1, ha⟩ := ha.next
    obtain ⟨v2, _, _, rfl, a2, ha⟩ := ha.next
    obtain ⟨v3, _, _, rfl, a3, ha⟩ := ha.next
    obtain ⟨v4, _, _, rfl, a4, ha⟩ := ha.next
    obtain ⟨v5, _, _, rfl, a5, ha⟩ := ha.next
    obtain rfl := ha.done
    obtain ⟨n0, xs0, ys0, rfl, hr0, hn0⟩ := arg_node a0
    obtain ⟨n1, xs1, ys1, rfl, hr1, hn1⟩ := arg_node a1
    obtain ⟨p2, l2, c2, rfl, hlc2, hc2, hcl2, hv2⟩ := arg_ints a2
    obtain ⟨i3, rfl, r3⟩ := arg_i64 a3 u_int
    obtain ⟨s4, rfl, r4⟩ := a4.str u_str
    obtain ⟨i5, rfl, r5⟩ := arg_u64 a5 u_u64
    obtain ⟨bb, hbb⟩ := Int.eq_ofNat_of_zero_le hn0.bm.1
    exact tombExact_c i3 i5 s4 hbb (by have := hn0.bm.2; omega) hr0 hn0.prc hcl2 (by omega)
theorem tombExact_holds : Rows.TombExactSaid :=
  OpenClaim.holds_of_wide 20 Try.f20 rfl rfl rfl rfl rfl rfl rfl ⟨rfl, rfl, rfl, rfl, rfl⟩ rfl rfl rfl rfl rfl (by kernel_rfl) Try.func20 (by kernel_rfl)
    (of_decide_eq_true (by kernel_rfl)) (by unfold Func.isWrapper; first | (rw [if_pos (by decide +kernel)]; kernel_rfl) | (rw [if_neg (by decide +kernel)]; exact ⟨rfl, rfl⟩))
    (fun os started H enc _ => tombExact_lifted os started H enc)
#print axioms tombExact_holds
end Go.Proofs.Ythmagkjcangnfaa
